/-
  'append(l, make([]T, n)...)': n zeros behind a row of one's own.
  No condition: plain lemmas.
-/
import Derived.Test.YtpkjbeebhdgleaaFe
set_option linter.unusedVariables false
namespace Go.Fw
open Go
variable {P : Program} {ops : Array Oper} {F : Act → World → Prop} {w0 : World} {M : List Nat} {N : Nf} {L : List (Oper × K)} {σ : List (Nat × Value)} {l lS : List (Nat × Ent)} {k : K}
  {d : Option Tmp} {ty : TypeId} {p : String} {af : Array Edge} {v v1 v2 z : Value} {x y c : Operand} {t tx : TypeId} {kd ki : IntKind} {n m r : Int} {b : Bool}

theorem zeroCells_zeros (z : Value) (q : Nat) : Builtin.zeroCells z.cells q = (zeros z q).toArray := by
  apply Array.ext'
  simp [Builtin.zeroCells, zeros]
theorem run_appendZ_room {w : World} {e : TypeId} {ti : TypeInfo} {q : Nat} (ht : P.underlying t = some (.slice e)) (hk : P.underlying tx = some (.int ki)) (hi : P.info? e = some ti) (hz : ti.zero = some z) (hq0 : 0 < q) (hsz : 0 < ti.size) (hb : q * ti.bytes ≤ 281474976710656) (h63 : q ≤ 9223372036854775807)
    {g sLen sCap : Nat} {en : Ent} (hid : en.id = some g) (hat : en.At w) (hroom : sLen + q ≤ sCap) (hfit : sLen * ti.size + (zeros z q).length ≤ en.cs.length) (h1 : ∀ u ∈ zeros z q, u.oneCell' = true) :
    (Builtin.append_ #[t, tx] ty #[.slice (some ⟨g, 0, none⟩) sLen sCap, .int kd (q : Int)]).run P w = .ok (.slice (some ⟨g, 0, none⟩) (sLen + q) sCap) (w.setRow g (put en.cs (sLen * ti.size) (zeros z q)).toArray) := by
  have hst := run_store_ent (P := P) hid hat (zeros z q) hfit h1
  have hw : IntKind.i64.wrap (q : Int) = (q : Int) := by rw [IntKind.wrap_i64]; omega
  have hn0 : ¬ (q * ti.size = 0) := by rw [Nat.mul_eq_zero]; omega
  have hbi : ¬ ((q : Int) * (ti.bytes : Int) > 2 ^ 48) := by
    have : ((q * ti.bytes : Nat) : Int) ≤ ((281474976710656 : Nat) : Int) := Int.ofNat_le.2 hb
    simp at this ⊢; omega
  have hadd : (⟨g, 0, none⟩ : Addr).add (sLen * ti.size) = ⟨g, sLen * ti.size, none⟩ := by rw [add_lit', Nat.zero_add]
  have hneg : ¬ ((q : Int) < 0) := by omega
  simp only [Builtin.append_, Sem.run_bind, run_underlying ht, run_underlying hk, sizeOf, typeInfo, run_program, hi, Sem.run_pure, Result.andThen, asInt, asIntOf, hw, hneg, hbi, if_true, if_false, Int.toNat_natCast, hn0, hroom, zeroValue, hz, zeroCells_zeros, hadd, hst, List.getElem?_toArray, List.getElem?_cons_zero, List.getElem?_cons_succ, Bool.not_true, Bool.false_eq_true]
theorem run_appendZ_grow {w : World} {e : TypeId} {ti : TypeInfo} {q : Nat} (ht : P.underlying t = some (.slice e)) (hk : P.underlying tx = some (.int ki)) (hi : P.info? e = some ti) (hz : ti.zero = some z) (hq0 : 0 < q) (hsz : 0 < ti.size) (hb : q * ti.bytes ≤ 281474976710656)
    {base : Option Addr} {sLen sCap : Nat} {olds : List Value} (h63 : sLen + q ≤ 9223372036854775807) (hold : (Builtin.firstCells ti.size sLen (.slice base sLen sCap)).run P w.drew = .ok olds.toArray w.drew) (hg : sCap < sLen + q) (hfit : Builtin.nextslicecap (sLen + q) sCap * ti.bytes ≤ 281474976710656) :
    (Builtin.append_ #[t, tx] ty #[.slice base sLen sCap, .int kd (q : Int)]).run P w = .ok (.slice (some ⟨w.heap.size, 0, none⟩) (sLen + q) (grownCap w (sLen + q) sCap e))
        (w.drew.alloc (.cells ((olds ++ zeros z q).toArray ++ Builtin.zeroCells z.cells (grownCap w (sLen + q) sCap e - (sLen + q))) e)) := by
  have hw : IntKind.i64.wrap (q : Int) = (q : Int) := by rw [IntKind.wrap_i64]; omega
  have hn0 : ¬ (q * ti.size = 0) := by rw [Nat.mul_eq_zero]; omega
  have hbi : ¬ ((q : Int) * (ti.bytes : Int) > 2 ^ 48) := by
    have : ((q * ti.bytes : Nat) : Int) ≤ ((281474976710656 : Nat) : Int) := Int.ofNat_le.2 hb
    simp at this ⊢; omega
  have hneg : ¬ ((q : Int) < 0) := by omega
  have hn : ¬ (sLen + q ≤ sCap) := by omega
  have h63' : ¬ (9223372036854775807 < ((sLen : Int) + (q : Int))) := by omega
  have h48' : ¬ (281474976710656 < Builtin.nextslicecap (sLen + q) sCap * ti.bytes) := by omega
  have hbi' : ¬ (281474976710656 < (q : Int) * (ti.bytes : Int)) := by simp at hbi ⊢; omega
  simp [Builtin.append_, run_underlying ht, run_underlying hk, sizeOf, typeInfo, zeroValue, asInt, asIntOf, hw, hneg, hbi', hi, hz, hn, h63', h48', Question.forced, hold, newRow, grownCap, zeroCells_zeros]
  exact fun h0 => absurd h0 hn0

theorem J.appendZ (h : Nat) (hh : lk lS h = none) {e size bytes q m' : Nat} {i : RowIx} {cs : List Value} (ht : P.underlying t = some (.slice e)) (hk : P.underlying tx = some (.int ki)) (he : ElT P e size bytes z) (hl : lk l h = some (i.ent e cs)) (hi : i.Ok size q) (hcs : cs.length = q * size)
    (hx : ev σ x = some (i.val q)) (hy : ev σ y = some (.int kd n)) (hn : n = (m' : Int)) (hm0 : 0 < m') (hb : (q + m') * bytes ≤ 140737488355328) (h63 : q + m' ≤ maxLen) (hd : okd N d) (q' : Nat) (hq' : q + m' = q') (cs' : List Value) (hcs' : cs ++ zeros z m' = cs')
    (hJ : ∀ i' : RowIx, i'.Ok size q' → J P ops F w0 M N lS L (putd d (i'.val q') σ) ((h, i'.ent e cs') :: l)) :
    J P ops F w0 M N lS ((⟨d, .call ⟨.builtin .append, #[x, y], #[t, tx]⟩, ty, p, af, none⟩, .l) :: L) σ l := by
  subst hq'; subst hcs'; subst hn
  refine J.loud rfl hd (ι := RowIx) (fun i' => i'.Ok size (q + m')) (fun i' => i'.val (q + m')) (fun i' => (h, i'.ent e (cs ++ zeros z m')) :: l) (fun _ _ hs => hs.fresh hh) (fun a ha w hw => ?_) hJ
  rw [run_builtin ha (args := [i.val q, .int kd (m' : Int)]) (by simp [evs, hx, hy]) w]
  have h1 := zeros_one he m'
  obtain ⟨ti, hti, htz, hts, htb⟩ := he.open
  have hzs := he.2.1
  have hsz := he.2.2.1
  subst hts; subst htb
  have hsmall : q + m' ≤ 9223372036854775807 := by simp only [maxLen] at h63; omega
  have hmb : m' * ti.bytes ≤ 281474976710656 := by
    have : m' * ti.bytes ≤ (q + m') * ti.bytes := Nat.mul_le_mul_right _ (by omega)
    omega
  have hzl : (zeros z m').length = m' * ti.size := by rw [zeros_length, hzs]
  have hat := hw.live h _ hl
  have fresh : ∀ (old : Nat) (w1 : World), w1 = w.drew.alloc (.cells ((cs ++ zeros z m').toArray ++ Builtin.zeroCells z.cells (grownCap w (q + m') old e - (q + m'))) e) →
      ∃ i' : RowIx, i'.Ok ti.size (q + m') ∧ Value.slice (some ⟨w.heap.size, 0, none⟩) (q + m') (grownCap w (q + m') old e) = i'.val (q + m') ∧ WS w0 M ((h, i'.ent e (cs ++ zeros z m')) :: l) w1 := by
    intro old w1 hw1
    have hge := grownCap_ge w (q + m') old e
    refine ⟨⟨some w.heap.size, grownCap w (q + m') old e, (Builtin.zeroCells z.cells (grownCap w (q + m') old e - (q + m'))).toList⟩, ⟨hge, grownCap_le_maxLen w (q + m') old e h63, ?_, fun h => by simp at h, zeroCells_one he _⟩, rfl, ?_⟩
    · rw [Array.length_toList, size_zeroCells, hzs, ← Nat.add_mul, Nat.add_sub_of_le hge]
    · rw [hw1]
      have := hw.drew.alloc h (cs ++ zeros z m' ++ (Builtin.zeroCells z.cells (grownCap w (q + m') old e - (q + m'))).toList) e
      simp only [RowIx.ent]
      have e1 : ((cs ++ zeros z m').toArray ++ Builtin.zeroCells z.cells (grownCap w (q + m') old e - (q + m'))) = (cs ++ zeros z m' ++ (Builtin.zeroCells z.cells (grownCap w (q + m') old e - (q + m'))).toList).toArray := by simp
      rw [e1]
      exact this
  cases hid : i.id with
  | none =>
    have hc0 := hi.none hid
    have hq0 : q = 0 := by have := hi.le; omega
    subst hq0
    have hcs0 : cs = [] := List.eq_nil_of_length_eq_zero (by simpa using hcs)
    subst hcs0
    have hval : i.val 0 = .slice none 0 0 := by simp [RowIx.val, hid, hdOf, hc0]
    have hr := run_appendZ_grow (P := P) (w := w) (ty := ty) (kd := kd) (base := none) (sLen := 0) (sCap := 0) (olds := []) ht hk hti htz hm0 hsz hmb (by omega) (by simpa using run_firstCells_none (P := P) w.drew ti.size 0 0 0) (by omega) (growslice_fits (by omega) hb)
    obtain ⟨i', hi', hv', hw'⟩ := fresh 0 _ rfl
    rw [hval]
    simp only [builtin, Sem.run_bind, hr, Result.andThen]
    exact ⟨i', hi', hv', hw'⟩
  | some g =>
    have hval : i.val q = .slice (some ⟨g, 0, none⟩) q i.cap := by simp [RowIx.val, hid, hdOf]
    rw [hval]
    by_cases hroom : q + m' ≤ i.cap
    · have hlen := hi.len
      have hfit : q * ti.size + (zeros z m').length ≤ (i.ent e cs).cs.length := by
        simp only [RowIx.ent, List.length_append, hcs, hzl, hlen, ← Nat.add_mul]
        exact Nat.mul_le_mul_right _ hroom
      have hr := run_appendZ_room (P := P) (w := w) (ty := ty) (kd := kd) (sCap := i.cap) ht hk hti htz hm0 hsz hmb (by omega) (g := g) (en := i.ent e cs) (by simp [RowIx.ent, hid]) hat hroom hfit h1
      simp only [builtin, Sem.run_bind, hr, Result.andThen]
      refine ⟨⟨some g, i.cap, i.sp.drop (zeros z m').length⟩, ⟨hroom, hi.max, ?_, fun h => by simp at h, fun u hu => hi.one u (List.mem_of_mem_drop hu)⟩, rfl, ?_⟩
      · simp only [List.length_drop, hzl, Nat.add_mul] at hfit ⊢
        simp only [RowIx.ent, List.length_append, hcs] at hfit
        omega
      · have hset := hw.set hl (g := g) (by simp [RowIx.ent, hid]) (cs ++ zeros z m' ++ i.sp.drop (zeros z m').length)
        have e1 : put (i.ent e cs).cs (q * ti.size) (zeros z m') = cs ++ zeros z m' ++ i.sp.drop (zeros z m').length := by
          rw [← hcs]
          simp [put, RowIx.ent, List.drop_append]
        rw [e1]
        simp only [RowIx.ent, hid] at hset ⊢
        exact hset
    · have holds : ∀ j u, cs[j]? = some u → w.drew.cell? ((⟨g, 0, none⟩ : Addr).add j) = some u := fun j u hj => by
        rw [add_lit', Nat.zero_add]
        have := hw.drew.cell hl (o := j) (v := u) (by simp only [RowIx.ent]; rw [List.getElem?_append_left (List.getElem?_eq_some_iff.1 hj).1]; exact hj)
        simpa [RowIx.ent, hid] using this
      have hr := run_appendZ_grow (P := P) (w := w) (ty := ty) (kd := kd) (base := some ⟨g, 0, none⟩) (sLen := q) (sCap := i.cap) (olds := cs) ht hk hti htz hm0 hsz hmb (by omega) (run_firstCells_some (P := P) w.drew ti.size q ⟨g, 0, none⟩ q i.cap cs hcs holds) (by omega) (growslice_fits (by omega) hb)
      simp only [builtin, Sem.run_bind, hr, Result.andThen]
      exact fresh i.cap _ rfl
end Go.Fw
