/-
  Rules for what makes rows: literals, make, append, copy; the row of one's own as an index.
  No condition: plain lemmas.
-/
import Derived.Test.YtpkjbeebhdgleaaFd
import Derived.Laws.Append
import Derived.Laws.MakeOwn
set_option linter.unusedVariables false
namespace Go.Fw
open Go
variable {P : Program} {ops : Array Oper} {F : Act → World → Prop} {w0 : World} {M : List Nat} {N : Nf} {L : List (Oper × K)} {σ : List (Nat × Value)} {l lS : List (Nat × Ent)} {k : K}
  {d : Option Tmp} {ty : TypeId} {p : String} {af : Array Edge} {v v1 v2 z : Value} {x y c : Operand} {t : TypeId} {kd : IntKind} {n m r : Int} {b : Bool}

/-- Numbers as cells. -/
def rowI (kd : IntKind) (xs : List Int) : List Value := xs.map (Value.int kd)
theorem rowI_length (kd : IntKind) (xs : List Int) : (rowI kd xs).length = xs.length := by simp [rowI]
theorem rowI_append (kd : IntKind) (xs ys : List Int) : rowI kd (xs ++ ys) = rowI kd xs ++ rowI kd ys := by simp [rowI]
theorem rowI_get (kd : IntKind) (xs : List Int) (i : Nat) (h : i < xs.length) : (rowI kd xs)[i]? = some (.int kd (xs.getD i 0)) := by simp [rowI, h, List.getD]
theorem rowI_set (kd : IntKind) (xs : List Int) (i : Nat) (x : Int) : (rowI kd xs).set i (.int kd x) = rowI kd (xs.set i x) := by simp [rowI, List.map_set]
theorem rowI_one (kd : IntKind) (xs : List Int) : ∀ u ∈ rowI kd xs, u.oneCell' = true := by
  intro u hu
  simp only [rowI, List.mem_map] at hu
  obtain ⟨x, _, rfl⟩ := hu
  rfl
theorem rowI_seg (kd : IntKind) (xs : List Int) (o q : Nat) : ((rowI kd xs).drop o).take q = rowI kd ((xs.drop o).take q) := by simp [rowI, List.map_drop, List.map_take]

/-- A row of one's own: its block (none: nil), its capacity, what lies in the room behind. -/
structure RowIx where
  id : Option Nat
  cap : Nat
  sp : List Value
def RowIx.nil : RowIx := ⟨none, 0, []⟩
structure RowIx.Ok (i : RowIx) (size n : Nat) : Prop where
  le : n ≤ i.cap
  max : i.cap ≤ maxLen
  len : n * size + i.sp.length = i.cap * size
  none : i.id = none → i.cap = 0
  one : ∀ u ∈ i.sp, u.oneCell' = true
def RowIx.ent (i : RowIx) (t : TypeId) (cs : List Value) : Ent := ⟨i.id, t, cs ++ i.sp⟩
def RowIx.val (i : RowIx) (n : Nat) : Value := .slice (hdOf i.id) n i.cap
theorem RowIx.nil_ok (size : Nat) : RowIx.nil.Ok size 0 := ⟨Nat.le_refl _, by simp [RowIx.nil], by simp [RowIx.nil], fun _ => rfl, by simp [RowIx.nil]⟩
theorem RowIx.Ok.some {i : RowIx} {size n : Nat} (h : i.Ok size n) (hn : 0 < n) : i.id.isSome = true := by
  cases hid : i.id with
  | none => have := h.none hid; have := h.le; omega
  | some g => rfl

/-- The element type's row of the table. -/
def ElT (P : Program) (e : TypeId) (size bytes : Nat) (z : Value) : Prop := (P.info? e).map (fun i => (i.zero, i.size, i.bytes)) = some (some z, size, bytes) ∧ z.cells.size = size ∧ 0 < size ∧ ∀ u ∈ z.cells.toList, u.oneCell' = true
theorem ElT.open {e size bytes : Nat} (h : ElT P e size bytes z) : ∃ i, P.info? e = some i ∧ i.zero = some z ∧ i.size = size ∧ i.bytes = bytes := by
  obtain ⟨h1, _⟩ := h
  cases hi : P.info? e with
  | none => simp [hi] at h1
  | some i => simp [hi] at h1; exact ⟨i, rfl, h1.1, h1.2.1, h1.2.2⟩
theorem ElT.sizeT {e size bytes : Nat} (h : ElT P e size bytes z) : SizeT P e size := by
  obtain ⟨i, h1, _, h3, _⟩ := h.open
  simp [SizeT, h1, h3]

theorem getBang_mem {zs : Array Value} (q : Nat) (h : q < zs.size) : zs[q]! ∈ zs.toList := by
  rw [getElem!_pos zs q h]; simp
theorem zeroCells_one {e size bytes : Nat} (h : ElT P e size bytes z) (q : Nat) : ∀ u ∈ (Builtin.zeroCells z.cells q).toList, u.oneCell' = true := by
  intro u hu
  simp only [Builtin.zeroCells, Array.toList_map, List.mem_map, Array.toList_range, List.mem_range] at hu
  obtain ⟨j, hj, rfl⟩ := hu
  exact h.2.2.2 _ (getBang_mem _ (Nat.mod_lt _ (by rw [h.2.1]; exact h.2.2.1)))

theorem J.append (h : Nat) (hh : lk lS h = none) {e size bytes q m' c0 : Nat} {i : RowIx} {cs news : List Value} {A : Option Addr} (ht : P.underlying t = some (.slice e)) (he : ElT P e size bytes z) (hl : lk l h = some (i.ent e cs)) (hi : i.Ok size q) (hcs : cs.length = q * size)
    (hx : ev σ x = some (i.val q)) (hy : ev σ y = some (.slice A m' c0)) (hnl : news.length = m' * size) (hnews : ∀ w, WS w0 M l w → Cs w A news) (h1 : ∀ u ∈ news, u.oneCell' = true)
    (hb : (q + m') * bytes ≤ 140737488355328) (h63 : q + m' ≤ maxLen) (hd : okd N d) (q' : Nat) (hq' : q + m' = q') (cs' : List Value) (hcs' : cs ++ news = cs')
    (hJ : ∀ i' : RowIx, i'.Ok size q' → J P ops F w0 M N lS L (putd d (i'.val q') σ) ((h, i'.ent e cs') :: l)) :
    J P ops F w0 M N lS ((⟨d, .call ⟨.builtin .append, #[x, y], #[t, t]⟩, ty, p, af, none⟩, .l) :: L) σ l := by
  subst hq'; subst hcs'
  refine J.loud rfl hd (ι := RowIx) (fun i' => i'.Ok size (q + m')) (fun i' => i'.val (q + m')) (fun i' => (h, i'.ent e (cs ++ news)) :: l) (fun _ _ hs => hs.fresh hh) (fun a ha w hw => ?_) hJ
  rw [run_builtin ha (args := [i.val q, .slice A m' c0]) (by simp [evs, hx, hy]) w]
  obtain ⟨ti, hti, htz, hts, htb⟩ := he.open
  have hzs := he.2.1
  have hsz := he.2.2.1
  subst hts; subst htb
  have hsmall : q + m' ≤ 9223372036854775807 := by simp only [maxLen] at h63; omega
  have hnw := hnews w hw
  by_cases hm : m' = 0
  · subst hm
    have hn : news = [] := List.eq_nil_of_length_eq_zero (by simpa using hnl)
    subst hn
    have hrun : (Builtin.append_ #[t, t] ty #[i.val q, .slice A 0 c0]).run P w = .ok (i.val q) w := by
      have hle := hi.le
      cases A <;> cases hid : i.id <;> simp [Builtin.append_, RowIx.val, hdOf, hid, run_underlying ht, sizeOf, typeInfo, hti, Builtin.lenOf, Builtin.firstCells, loadCells, loadCellsFrom, storeCells, hle]
    simp only [builtin, Sem.run_bind, hrun, Result.andThen]
    refine ⟨i, by simpa using hi, by simp, ?_⟩
    simp only [List.append_nil]
    exact hw.sub (Sub.cons hl (Sub.refl _))
  obtain ⟨ad, rfl⟩ : ∃ ad, A = some ad := by
    cases hne : news with
    | nil =>
      have h0 : m' * ti.size = 0 := by rw [← hnl, hne]; rfl
      rcases Nat.mul_eq_zero.1 h0 with h0 | h0 <;> omega
    | cons u us => obtain ⟨ad, ha, _⟩ := hnw 0 u (by simp [hne]); exact ⟨ad, ha⟩
  have hnews' : ∀ j u, news[j]? = some u → w.cell? (ad.add j) = some u := fun j u hj => by
    obtain ⟨ad', h2, h3⟩ := hnw j u hj
    simp at h2; subst h2; exact h3
  have hat := hw.live h _ hl
  -- the row in new memory
  have fresh : ∀ (old : Nat) (w1 : World), w1 = w.drew.alloc (.cells (cs.toArray ++ news.toArray ++ Builtin.zeroCells z.cells (grownCap w (q + m') old e - (q + m'))) e) →
      ∃ i' : RowIx, i'.Ok ti.size (q + m') ∧ Value.slice (some ⟨w.heap.size, 0, none⟩) (q + m') (grownCap w (q + m') old e) = i'.val (q + m') ∧ WS w0 M ((h, i'.ent e (cs ++ news)) :: l) w1 := by
    intro old w1 hw1
    have hge := grownCap_ge w (q + m') old e
    refine ⟨⟨some w.heap.size, grownCap w (q + m') old e, (Builtin.zeroCells z.cells (grownCap w (q + m') old e - (q + m'))).toList⟩, ⟨hge, grownCap_le_maxLen w (q + m') old e h63, ?_, fun h => by simp at h, zeroCells_one he _⟩, rfl, ?_⟩
    · rw [Array.length_toList, size_zeroCells, hzs, ← Nat.add_mul, Nat.add_sub_of_le hge]
    · rw [hw1]
      have := hw.drew.alloc h (cs ++ news ++ (Builtin.zeroCells z.cells (grownCap w (q + m') old e - (q + m'))).toList) e
      simp only [RowIx.ent]
      have e1 : (cs.toArray ++ news.toArray ++ Builtin.zeroCells z.cells (grownCap w (q + m') old e - (q + m'))) = (cs ++ news ++ (Builtin.zeroCells z.cells (grownCap w (q + m') old e - (q + m'))).toList).toArray := by simp
      rw [e1]
      exact this
  cases hid : i.id with
  | none =>
    have hc0 := hi.none hid
    have hq0 : q = 0 := by have := hi.le; omega
    subst hq0
    have hcs0 : cs = [] := List.eq_nil_of_length_eq_zero (by simpa using hcs)
    subst hcs0
    have hr := run_append_nil (P := P) w t ty e ti z ht hti htz ad m' c0 news hnl hnews' (by omega) (by omega) (by simp only [Nat.zero_add] at hb; omega)
    obtain ⟨i', hi', hv', hw'⟩ := fresh 0 _ rfl
    simp only [Nat.zero_add, Array.empty_append] at hi' hv' hw' hr ⊢
    have hval : i.val 0 = .slice none 0 0 := by simp [RowIx.val, hid, hdOf, hc0]
    rw [hval]
    simp only [builtin, Sem.run_bind, hr, Result.andThen]
    exact ⟨i', hi', hv', hw'⟩
  | some g =>
    have hval : i.val q = .slice (some ⟨g, 0, none⟩) q i.cap := by simp [RowIx.val, hid, hdOf]
    rw [hval]
    have hg : w.heap[g]? = some (.cells (cs ++ i.sp).toArray e (0, 0)) := by
      have h0 := hat; simp only [Ent.At, RowIx.ent, hid] at h0; obtain ⟨t0, h1, h2⟩ := h0; cases h1; exact h2
    by_cases hroom : q + m' ≤ i.cap
    · have hlen := hi.len
      have hfit : q * ti.size + news.length ≤ (cs ++ i.sp).toArray.size := by
        simp only [List.size_toArray, List.length_append, hcs, hnl, hlen, ← Nat.add_mul]
        exact Nat.mul_le_mul_right _ hroom
      have hr := run_append_room (P := P) w t ty e ti ht hti g q i.cap _ hg ad m' c0 news hnl hnews' h1 hroom hfit
      simp only [builtin, Sem.run_bind, hr, Result.andThen]
      refine ⟨⟨some g, i.cap, i.sp.drop news.length⟩, ⟨hroom, hi.max, ?_, fun h => by simp at h, fun u hu => hi.one u (List.mem_of_mem_drop hu)⟩, rfl, ?_⟩
      · simp only [List.length_drop, List.size_toArray, List.length_append, Nat.add_mul] at hfit ⊢; omega
      · have hset := hw.set hl (g := g) (by simp [RowIx.ent, hid]) (cs ++ news ++ i.sp.drop news.length)
        have e1 : (((cs ++ i.sp).toArray.toList.take (q * ti.size) ++ news ++ (cs ++ i.sp).toArray.toList.drop (q * ti.size + news.length)).toArray) = (cs ++ news ++ i.sp.drop news.length).toArray := by
          rw [← hcs]
          simp [List.drop_append]
        rw [e1]
        simp only [RowIx.ent, hid] at hset ⊢
        exact hset
    · have holds : ∀ j u, cs[j]? = some u → w.cell? ((⟨g, 0, none⟩ : Addr).add j) = some u := fun j u hj => by
        rw [add_lit', Nat.zero_add]
        have := hw.cell hl (o := j) (v := u) (by simp only [RowIx.ent]; rw [List.getElem?_append_left (List.getElem?_eq_some_iff.1 hj).1]; exact hj)
        simpa [RowIx.ent, hid] using this
      have hr := run_append_grow (P := P) w t ty e ti z ht hti htz ⟨g, 0, none⟩ q i.cap cs hcs holds ad m' c0 news hnl hnews' (by omega) (by omega) (growslice_fits (by omega) hb)
      simp only [builtin, Sem.run_bind, hr, Result.andThen]
      exact fresh i.cap _ rfl

/-- A literal: its run is shown beside it. -/
def evp (σ : List (Nat × Value)) : List (Nat × Operand) → Option (List (Nat × Value))
  | [] => some []
  | (i, x) :: xs => match ev σ x with
    | some v => match evp σ xs with
      | some vs => some ((i, v) :: vs)
      | none => none
    | none => none
theorem Has.evps {a : Act} (h : Has N σ a) : ∀ {xs : List (Nat × Operand)} {vs : List (Nat × Value)}, evp σ xs = some vs → xs.map (fun q => (q.1, a.eval q.2)) = vs
  | [], vs, hx => by simpa [evp] using hx
  | (i, x) :: xs, vs, hx => by
    simp only [evp] at hx
    cases h1 : ev σ x with
    | none => simp [h1] at hx
    | some v =>
      cases h2 : evp σ xs with
      | none => simp [h1, h2] at hx
      | some us =>
        simp only [h1, h2, Option.some.injEq] at hx
        subst hx
        simp [h.eval h1, h.evps h2]
theorem J.build {parts : Array (Nat × Operand)} {vs : List (Nat × Value)} (hx : evp σ parts.toList = some vs) (hd : okd N d) (z : Value) (hr : ∀ w, (Instr.build t vs.toArray).run P w = .ok z w) (hJ : J P ops F w0 M N lS L (putd d z σ) l) :
    J P ops F w0 M N lS ((⟨d, .build t parts, ty, p, af, none⟩, k) :: L) σ l :=
  J.pure rfl hd _ (fun a ha w => by
    have h1 : parts.map (fun q => (q.1, a.eval q.2)) = vs.toArray := by rw [← ha.evps hx, ← Array.toList_map, Array.toArray_toList]
    have h2 : (execOp a.eval ⟨d, .build t parts, ty, p, af, none⟩) = (do Pure.pure (Next.value (← Instr.build t (parts.map (fun q => (q.1, a.eval q.2))))) : Sem Next) := rfl
    rw [h2, h1]
    simp [hr w]) hJ
theorem J.buildSlice (h : Nat) (hh : lk lS h = none) {e len : Nat} {parts : Array (Nat × Operand)} {vs : List (Nat × Value)} (hx : evp σ parts.toList = some vs) (hd : okd N d) (cs : List Value)
    (hr : ∀ w, (Instr.buildSlice t len vs.toArray).run P w = .ok (.slice (some ⟨w.heap.size, 0, none⟩) len len) (w.alloc (.cells cs.toArray e)))
    (hJ : ∀ g, w0.heap.size ≤ g → J P ops F w0 M N lS L (putd d (.slice (some ⟨g, 0, none⟩) len len) σ) ((h, ⟨some g, e, cs⟩) :: l)) :
    J P ops F w0 M N lS ((⟨d, .buildSlice t len parts, ty, p, af, none⟩, .l) :: L) σ l :=
  J.loud rfl hd (ι := Nat) (fun g => w0.heap.size ≤ g) (fun g => .slice (some ⟨g, 0, none⟩) len len) (fun g => (h, ⟨some g, e, cs⟩) :: l) (fun _ _ hs => hs.fresh hh) (fun a ha w hw => by
    have h1 : parts.map (fun q => (q.1, a.eval q.2)) = vs.toArray := by rw [← ha.evps hx, ← Array.toList_map, Array.toArray_toList]
    have h2 : (execOp a.eval ⟨d, .buildSlice t len parts, ty, p, af, none⟩) = (do Pure.pure (Next.value (← Instr.buildSlice t len (parts.map (fun q => (q.1, a.eval q.2))))) : Sem Next) := rfl
    rw [h2, h1]
    simp only [Sem.run_bind, hr w, Result.andThen]
    exact ⟨_, hw.size, rfl, hw.alloc h cs e⟩) hJ

/-- 'q' zero elements. -/
def zeros (z : Value) (q : Nat) : List Value := (List.range (q * z.cells.size)).map fun i => z.cells[i % z.cells.size]!
theorem zeros_length (z : Value) (q : Nat) : (zeros z q).length = q * z.cells.size := by simp [zeros]
theorem zeros_int (kd : IntKind) (q : Nat) : zeros (.int kd 0) q = rowI kd (List.replicate q 0) := by
  apply List.ext_getElem
  · simp [zeros, rowI, Value.cells]
  · intro i h1 h2
    simp [zeros, rowI, Value.cells, Nat.mod_one]
theorem zeros_one {e size bytes : Nat} (h : ElT P e size bytes z) (q : Nat) : ∀ u ∈ zeros z q, u.oneCell' = true := by
  intro u hu
  simp only [zeros, List.mem_map, List.mem_range] at hu
  obtain ⟨j, hj, rfl⟩ := hu
  exact h.2.2.2 _ (getBang_mem _ (Nat.mod_lt _ (by rw [h.2.1]; exact h.2.2.1)))

/-- 'make([]T, q)', 'make([]T, q, c)'. -/
theorem J.makeSlice (h : Nat) (hh : lk lS h = none) {e size bytes q c0 : Nat} {kl kc : IntKind} {nl nc : Int} (ht : P.underlying t = some (.slice e)) (he : ElT P e size bytes z) (hx : ev σ x = some (.int kl nl)) (hy : ev σ y = some (.int kc nc)) (hq : nl = (q : Int)) (hc : nc = (c0 : Int)) (hqc : q ≤ c0)
    (hb : bytes * c0 ≤ 281474976710656) (hm : c0 ≤ maxLen) (hd : okd N d)
    (hJ : ∀ g, w0.heap.size ≤ g → J P ops F w0 M N lS L (putd d (.slice (hdOf (some g)) q c0) σ) ((h, ⟨some g, e, zeros z c0⟩) :: l)) :
    J P ops F w0 M N lS ((⟨d, .makeSlice t x y, ty, p, af, none⟩, .l) :: L) σ l :=
  J.loud rfl hd (ι := Nat) (fun g => w0.heap.size ≤ g) (fun g => .slice (hdOf (some g)) q c0) (fun g => (h, ⟨some g, e, zeros z c0⟩) :: l) (fun _ _ hs => hs.fresh hh) (fun a ha w hw => by
    subst hq; subst hc
    obtain ⟨ti, hti, htz, hts, htb⟩ := he.open
    subst hts; subst htb
    have hm' : c0 ≤ 9223372036854775807 := by simp only [maxLen] at hm; omega
    have hwl : IntKind.i64.wrap (q : Int) = (q : Int) := by rw [IntKind.wrap_i64]; omega
    have hwc : IntKind.i64.wrap (c0 : Int) = (c0 : Int) := by rw [IntKind.wrap_i64]; omega
    have hbi : ¬ ((ti.bytes : Int) * (c0 : Int) > 2 ^ 48) := by
      have : ((ti.bytes * c0 : Nat) : Int) ≤ ((281474976710656 : Nat) : Int) := Int.ofNat_le.2 hb
      simp at this ⊢; omega
    have htl : ¬ ((decide ((c0 : Int) < 0) || decide ((ti.bytes : Int) * (c0 : Int) > 2 ^ 48)) = true ∨ (q : Int) < 0 ∨ (q : Int) > (c0 : Int)) := by simp at hbi ⊢; omega
    have hrun : (execOp a.eval ⟨d, .makeSlice t x y, ty, p, af, none⟩).run P w = .ok (.value (.slice (hdOf (some w.heap.size)) q c0)) (w.alloc (.cells (zeros z c0).toArray e)) := by
      have e0 : (Array.map (fun i => z.cells[i % z.cells.size]!) (Array.range (c0 * z.cells.size))) = (zeros z c0).toArray := by
        apply Array.ext'
        simp [zeros]
      have hzs := he.2.1
      by_cases hz0 : c0 * ti.size = 0
      · have hc00 : c0 = 0 := by
          rcases Nat.mul_eq_zero.1 hz0 with h | h
          · exact h
          · have := he.2.2.1; omega
        subst hc00
        have hq0 : q = 0 := by omega
        subst hq0
        simp [execOp, Instr.makeSlice, ha.eval hx, ha.eval hy, run_underlying ht, asInt, asIntOf, typeInfo, hti, IntKind.wrap_i64, sizeOf, newRow, zeros, hdOf]
        rw [Array.range_zero', Array.map_empty]
      · simp only [execOp, Instr.makeSlice, ha.eval hx, ha.eval hy, Sem.run_bind, run_underlying ht, asInt, asIntOf, Sem.run_pure, Result.andThen, typeInfo, run_program, hti, hwl, hwc, sizeOf, run_askRoom, Int.toNat_natCast, hz0, if_false, zeroValue, htz, newRow, run_newObj, Sem.run_ite]
        rw [if_neg (by simpa using htl)]
        simp only [hdOf, ← hzs, e0, Option.map_some]
        rfl
    rw [hrun]
    exact ⟨_, hw.size, rfl, hw.alloc h (zeros z c0) e⟩) hJ
end Go.Fw
