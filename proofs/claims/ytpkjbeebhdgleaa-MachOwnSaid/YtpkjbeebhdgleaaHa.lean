/-
  A row without room grows: the old one stays.
  No condition: plain lemmas.
-/
import Derived.Test.YtpkjbeebhdgleaaFq
import Derived.Test.YtpkjbeebhdgleaaFm
import Derived.Test.YtpkjbeebhdgleaaOa
set_option linter.unusedVariables false
namespace Go.Fw
open Go
section
variable {P : Program} {ops : Array Oper} {F : Act → World → Prop} {w0 w w' : World} {M : List Nat} {N : Nf} {L : List (Oper × K)} {σ : List (Nat × Value)} {l lS : List (Nat × Ent)} {d : Option Tmp} {ty : TypeId} {p : String} {af : Array Edge} {x y : Operand} {v z : Value} {t : TypeId}
theorem J.appendFull (h h2 : Nat) (hh : lk lS h2 = none) {e size bytes q m' c0 g : Nat} {cs news : List Value} {A : Option Addr} (ht : P.underlying t = some (.slice e)) (he : ElT P e size bytes z) (hl : lk l h = some ⟨some g, e, cs⟩) (hcs : cs.length = q * size)
    (hx : ev σ x = some (.slice (some ⟨g, 0, none⟩) q q)) (hy : ev σ y = some (.slice A m' c0)) (hm : 0 < m') (hnl : news.length = m' * size) (hnews : ∀ w, WS w0 M l w → Cs w A news)
    (hb : (q + m') * bytes ≤ 140737488355328) (h63 : q + m' ≤ maxLen) (hd : okd N d) (q' : Nat) (hq' : q + m' = q') (cs' : List Value) (hcs' : cs ++ news = cs')
    (hJ : ∀ i' : RowIx, i'.Ok size q' → J P ops F w0 M N lS L (putd d (i'.val q') σ) ((h2, i'.ent e cs') :: l)) :
    J P ops F w0 M N lS ((⟨d, .call ⟨.builtin .append, #[x, y], #[t, t]⟩, ty, p, af, none⟩, .l) :: L) σ l := by
  subst hq'; subst hcs'
  refine J.loud rfl hd (ι := RowIx) (fun i' => i'.Ok size (q + m')) (fun i' => i'.val (q + m')) (fun i' => (h2, i'.ent e (cs ++ news)) :: l) (fun _ _ hs => hs.fresh hh) (fun a ha w hw => ?_) hJ
  rw [run_builtin ha (args := [.slice (some ⟨g, 0, none⟩) q q, .slice A m' c0]) (by simp [evs, hx, hy]) w]
  obtain ⟨ti, hti, htz, hts, htb⟩ := he.open
  have hzs := he.2.1
  have hsz := he.2.2.1
  subst hts; subst htb
  have hsmall : q + m' ≤ 9223372036854775807 := by simp only [maxLen] at h63; omega
  have hnw := hnews w hw
  obtain ⟨ad, rfl⟩ : ∃ ad, A = some ad := by
    cases hne : news with
    | nil =>
      have h0 : m' * ti.size = 0 := by rw [← hnl, hne]; rfl
      rcases Nat.mul_eq_zero.1 h0 with h0 | h0 <;> omega
    | cons u us => obtain ⟨ad, ha, _⟩ := hnw 0 u (by simp [hne]); exact ⟨ad, ha⟩
  have hnews' : ∀ j u, news[j]? = some u → w.cell? (ad.add j) = some u := fun j u hj => by
    obtain ⟨ad', h2, h3⟩ := hnw j u hj
    simp at h2; subst h2; exact h3
  have holds : ∀ j u, cs[j]? = some u → w.cell? ((⟨g, 0, none⟩ : Addr).add j) = some u := fun j u hj => by
    rw [add_lit', Nat.zero_add]
    have := hw.cell hl (o := j) (v := u) hj
    simpa using this
  have hr := run_append_grow (P := P) w t ty e ti z ht hti htz ⟨g, 0, none⟩ q q cs hcs holds ad m' c0 news hnl hnews' (by omega) (by omega) (growslice_fits (by omega) hb)
  simp only [builtin, Sem.run_bind, hr, Result.andThen]
  have hge := grownCap_ge w (q + m') q e
  refine ⟨⟨some w.heap.size, grownCap w (q + m') q e, (Builtin.zeroCells z.cells (grownCap w (q + m') q e - (q + m'))).toList⟩, ⟨hge, grownCap_le_maxLen w (q + m') q e h63, ?_, fun h => by simp at h, zeroCells_one he _⟩, rfl, ?_⟩
  · rw [Array.length_toList, size_zeroCells, hzs, ← Nat.add_mul, Nat.add_sub_of_le hge]
  · have := hw.drew.alloc h2 (cs ++ news ++ (Builtin.zeroCells z.cells (grownCap w (q + m') q e - (q + m'))).toList) e
    simp only [RowIx.ent]
    have e1 : (cs.toArray ++ news.toArray ++ Builtin.zeroCells z.cells (grownCap w (q + m') q e - (q + m'))) = (cs ++ news ++ (Builtin.zeroCells z.cells (grownCap w (q + m') q e - (q + m'))).toList).toArray := by simp
    rw [e1]
    exact this
/-- A fresh row without room behind it. -/
def ExactW (w : World) (t : TypeId) (zs : List Nat) (e : Ending) (w' : World) : Prop := ∃ g, w.heap.size ≤ g ∧ e = .returned (.slice (some ⟨g, 0, none⟩) zs.length zs.length) ∧ WS w [] [(0, ⟨some g, t, rowW zs⟩)] w'
def ExactE (w : World) (t : TypeId) (zs : List Nat) (e : Ending) (w' : World) : Prop := ∃ g, w.heap.size ≤ g ∧ e = .returned (.tuple #[.slice (some ⟨g, 0, none⟩) zs.length zs.length, .int .i64 0]) ∧ WS w [] [(0, ⟨some g, t, rowN .u8 zs⟩)] w'
theorem J.callExactW (h : Nat) (hh : lk lS h = none) {zs : List Nat} {f : FuncId} (hf : FnOk P f) {xs : Array Operand} {tys : Array TypeId} {args : List Value} (hx : evs σ xs.toList = some args) (hd : okd N d)
    (spec : ∀ w, WS w0 M l w → Calls P f args.toArray w (ExactW w t zs))
    (hJ : ∀ g, w0.heap.size ≤ g → J P ops F w0 M N lS L (putd d (.slice (some ⟨g, 0, none⟩) zs.length zs.length) σ) ((h, ⟨some g, t, rowW zs⟩) :: l)) :
    J P ops F w0 M N lS ((⟨d, .call ⟨.value (.func f), xs, tys⟩, ty, p, af, none⟩, .l) :: L) σ l :=
  J.call hf hx hd (ι := Nat) (fun g => w0.heap.size ≤ g) (fun g => .slice (some ⟨g, 0, none⟩) zs.length zs.length) [] (fun g => [(h, ⟨some g, t, rowW zs⟩)])
    (fun w hw => (spec w hw).mono fun e w' ⟨g, hg, he, h2⟩ => ⟨g, Nat.le_trans hw.size hg, he, h2.rename h⟩) (fun _ _ g hg => by simp at hg) (fun i k e he => by
      rw [lk_cons] at he
      split at he
      · rename_i hk; subst hk; exact hh
      · simp [lk] at he) (fun i hi => hJ i hi)
theorem J.callExactE (h : Nat) (hh : lk lS h = none) {zs : List Nat} {f : FuncId} (hf : FnOk P f) {xs : Array Operand} {tys : Array TypeId} {args : List Value} (hx : evs σ xs.toList = some args) (hd : okd N d)
    (spec : ∀ w, WS w0 M l w → Calls P f args.toArray w (ExactE w t zs))
    (hJ : ∀ g, w0.heap.size ≤ g → J P ops F w0 M N lS L (putd d (.tuple #[.slice (some ⟨g, 0, none⟩) zs.length zs.length, .int .i64 0]) σ) ((h, ⟨some g, t, rowN .u8 zs⟩) :: l)) :
    J P ops F w0 M N lS ((⟨d, .call ⟨.value (.func f), xs, tys⟩, ty, p, af, none⟩, .l) :: L) σ l :=
  J.call hf hx hd (ι := Nat) (fun g => w0.heap.size ≤ g) (fun g => .tuple #[.slice (some ⟨g, 0, none⟩) zs.length zs.length, .int .i64 0]) [] (fun g => [(h, ⟨some g, t, rowN .u8 zs⟩)])
    (fun w hw => (spec w hw).mono fun e w' ⟨g, hg, he, h2⟩ => ⟨g, Nat.le_trans hw.size hg, he, h2.rename h⟩) (fun _ _ g hg => by simp at hg) (fun i k e he => by
      rw [lk_cons] at he
      split at he
      · rename_i hk; subst hk; exact hh
      · simp [lk] at he) (fun i hi => hJ i hi)
end
def slv (o : Option Nat) (n : Nat) : Value := .slice (hdOf o) n n
def opt {α : Type} (c : Prop) [Decidable c] (xs : List α) : List α := if c then xs else []
def sel {α : Type} (c : Prop) [Decidable c] (xs ys : List α) : List α := if c then xs else ys
/-- The word that marks the j-th row. -/
def mkw (j : Nat) : Nat := wval 0 0 7 (1000 + j)
theorem fillW (k m : Nat) (zs : List Nat) (h : k < zs.length) : put (rowW (List.replicate k m ++ zs.drop k)) (k * 4) (wc m) = rowW (List.replicate (k + 1) m ++ zs.drop (k + 1)) := by
  have e1 : rowW (List.replicate k m ++ zs.drop k) = rowW (List.replicate k m) ++ (wc (zs.getD k 0) ++ rowW (zs.drop (k + 1))) := by
    rw [rowW_append, List.drop_eq_getElem_cons h]
    congr 1
    rw [show zs[k] = zs.getD k 0 by simp [List.getD, h]]
    rfl
  have e2 : rowW (List.replicate (k + 1) m ++ zs.drop (k + 1)) = rowW (List.replicate k m) ++ (wc m ++ rowW (zs.drop (k + 1))) := by
    rw [rowW_append, List.replicate_succ', rowW_append, List.append_assoc]
    congr 2
  have hl : (rowW (List.replicate k m)).length = k * 4 := by rw [rowW_length, List.length_replicate]
  rw [e1, e2]
  unfold put
  rw [← hl, List.take_left, List.append_assoc]
  congr 2
  rw [show (wc m).length = (wc (zs.getD k 0)).length from rfl, ← List.length_append, ← List.append_assoc, List.drop_left]
theorem fillN (k m : Nat) (zs : List Nat) (h : k < zs.length) : put (rowN .u8 (List.replicate k m ++ zs.drop k)) (k * 1) [.int .u8 ((m : Nat) : Int)] = rowN .u8 (List.replicate (k + 1) m ++ zs.drop (k + 1)) := by
  have e1 : rowN .u8 (List.replicate k m ++ zs.drop k) = rowN .u8 (List.replicate k m) ++ ([.int .u8 ((zs.getD k 0 : Nat) : Int)] ++ rowN .u8 (zs.drop (k + 1))) := by
    rw [rowN_append, List.drop_eq_getElem_cons h]
    congr 1
    rw [show zs[k] = zs.getD k 0 by simp [List.getD, h]]
    rfl
  have e2 : rowN .u8 (List.replicate (k + 1) m ++ zs.drop (k + 1)) = rowN .u8 (List.replicate k m) ++ ([.int .u8 ((m : Nat) : Int)] ++ rowN .u8 (zs.drop (k + 1))) := by
    rw [rowN_append, List.replicate_succ', rowN_append, List.append_assoc]
    rfl
  have hl : (rowN .u8 (List.replicate k m)).length = k * 1 := by rw [rowN_length, List.length_replicate, Nat.mul_one]
  rw [e1, e2]
  unfold put
  rw [← hl, List.take_left, List.append_assoc]
  congr 2
  rw [show [Value.int .u8 ((m : Nat) : Int)].length = [Value.int .u8 ((zs.getD k 0 : Nat) : Int)].length from rfl, ← List.length_append, ← List.append_assoc, List.drop_left]
theorem repW_seg (n k m : Nat) (sp : List Value) (h : k < n) : ((rowW (List.replicate n m) ++ sp).drop (k * 4)).take 4 = wc m := by
  rw [rowW_segs _ _ _ (by rw [List.length_replicate]; exact h)]
  congr 1
  simp [List.getD, h]
theorem repW_seg0 (n k m : Nat) (h : k < n) : ((rowW (List.replicate n m)).drop (k * 4)).take 4 = wc m := by
  have := repW_seg n k m [] h
  rwa [List.append_nil] at this
theorem repN_get (n k m : Nat) (sp : List Value) (h : k < n) : (rowN .u8 (List.replicate n m) ++ sp)[k * 1]? = some (.int .u8 ((m : Nat) : Int)) := by
  rw [rowN_get1s _ _ _ _ (by rw [List.length_replicate]; exact h)]
  congr 3
  simp [List.getD, h]
theorem repN_get0 (n k m : Nat) (h : k < n) : (rowN .u8 (List.replicate n m))[k * 1]? = some (.int .u8 ((m : Nat) : Int)) := by
  have := repN_get n k m [] h
  rwa [List.append_nil] at this
/-- What was written into new memory is read again. -/
theorem own_mem (bs : List Nat) (h : bs.length ≤ 70000) : pieceE (writeB (growB [] (bs.length : Nat)) 0 bs).length 0 (bs.length : Nat) = 0 ∧ cutB (writeB (growB [] (bs.length : Nat)) 0 bs) 0 (bs.length : Nat) = bs ∧ pieceE (growB [] (bs.length : Nat)).length 0 (bs.length : Nat) = 0 := by
  have hg := growB_length [] ((bs.length : Nat) : Int)
  have hlen : bs.length ≤ (growB [] (bs.length : Nat)).length := by rw [hg]; unfold growL; split <;> omega
  have hE : pieceE (growB [] (bs.length : Nat)).length 0 (bs.length : Nat) = 0 := pieceE_iff.2 (by omega)
  have hw := writeB_yes (bs := growB [] (bs.length : Nat)) (xs := bs) (a := 0) hE
  have hl : (writeB (growB [] (bs.length : Nat)) 0 bs).length = (growB [] (bs.length : Nat)).length := by rw [hw]; exact putB_length (by simpa using hlen)
  have hE2 : pieceE (writeB (growB [] (bs.length : Nat)) 0 bs).length 0 (bs.length : Nat) = 0 := by rw [hl]; exact hE
  refine ⟨hE2, ?_, hE⟩
  rw [cutB_ok hE2, hw]
  unfold putB
  simp
theorem growW (n m : Nat) : rowW (List.replicate n m) ++ wc m = rowW (List.replicate (n + 1) m) := by
  rw [List.replicate_succ', rowW_append]
  congr 1
theorem growN (n m : Nat) : rowN .u8 (List.replicate n m) ++ [.int .u8 ((m : Nat) : Int)] = rowN .u8 (List.replicate (n + 1) m) := by
  rw [List.replicate_succ', rowN_append]
  rfl
/-- Rows that are written full of a mark. -/
def eW (t u n j : Nat) : Ent := ⟨some u, t, rowW (List.replicate n (mkw j))⟩
def eN (t u n j : Nat) : Ent := ⟨some u, t, rowN .u8 (List.replicate n j)⟩
theorem sn {α : Type} (l : List (Nat × α)) : Sub [] l := Sub.nil l
theorem sc {α : Type} {s l : List (Nat × α)} {k : Nat} {v : α} (h : lk l k = some v) (hs : Sub s l) : Sub ((k, v) :: s) l := Sub.cons h hs
end Go.Fw
