/-
  More rules: words and rows of words, bytes as strings, comparing what is no number, 'copy', adding with a carry.
  No condition: plain lemmas.
-/
import Derived.Test.YtpkjbeebhdgleaaPb
import Derived.Laws.BytesString
import Derived.Laws.IdiomCopy
import Derived.Laws.Pointers
set_option linter.unusedVariables false
namespace Go.Fw
open Go
variable {P : Program} {ops : Array Oper} {F : Act → World → Prop} {w0 : World} {M : List Nat} {N : Nf} {L : List (Oper × K)} {σ : List (Nat × Value)} {l lS : List (Nat × Ent)} {k : K}
  {d : Option Tmp} {ty : TypeId} {p : String} {af : Array Edge} {v v1 v2 z : Value} {x y c : Operand} {t : TypeId} {kd : IntKind} {n m r : Int} {b : Bool}

/-! ### Rows of words -/
def rowW (xs : List Nat) : List Value := xs.flatMap wc
theorem rowW_length (xs : List Nat) : (rowW xs).length = xs.length * 4 := by
  induction xs with
  | nil => rfl
  | cons x xs ih => simp only [rowW, List.flatMap_cons, List.length_append, List.length_cons] at ih ⊢; rw [ih]; simp only [wc, rowN_length, wl_length]; omega
theorem rowW_append (xs ys : List Nat) : rowW (xs ++ ys) = rowW xs ++ rowW ys := by simp [rowW]
theorem rowW_one' (x : Nat) : rowW [x] = wc x := by simp [rowW]
theorem rowW_one (xs : List Nat) : ∀ u ∈ rowW xs, u.oneCell' = true := by
  intro u hu
  simp only [rowW, List.mem_flatMap] at hu
  obtain ⟨x, _, hx⟩ := hu
  exact rowN_one _ _ u hx
theorem wc_length (x : Nat) : (wc x).length = 4 := rfl
theorem rowW_take (xs : List Nat) (i : Nat) : (rowW xs).take (i * 4) = rowW (xs.take i) := by
  induction xs generalizing i with
  | nil => simp [rowW]
  | cons x xs ih =>
    cases i with
    | zero => simp [rowW]
    | succ i =>
      rw [show (i + 1) * 4 = (wc x).length + i * 4 by rw [wc_length]; omega]
      simp only [rowW, List.flatMap_cons, List.take_succ_cons] at ih ⊢
      rw [List.take_length_add_append, ih]
theorem rowW_drop (xs : List Nat) (i : Nat) : (rowW xs).drop (i * 4) = rowW (xs.drop i) := by
  induction xs generalizing i with
  | nil => simp [rowW]
  | cons x xs ih =>
    cases i with
    | zero => simp [rowW]
    | succ i =>
      rw [show (i + 1) * 4 = (wc x).length + i * 4 by rw [wc_length]; omega]
      simp only [rowW, List.flatMap_cons, List.drop_succ_cons] at ih ⊢
      rw [List.drop_length_add_append, ih]
theorem rowW_seg (xs : List Nat) (i : Nat) (h : i < xs.length) : ((rowW xs).drop (i * 4)).take 4 = wc (xs.getD i 0) := by
  rw [rowW_drop, List.drop_eq_getElem_cons h]
  simp only [rowW, List.flatMap_cons]
  rw [List.take_append_of_le_length (by rw [wc_length]; omega), List.take_of_length_le (by rw [wc_length]; omega)]
  simp [List.getD, h]
theorem rowW_segs (xs : List Nat) (sp : List Value) (i : Nat) (h : i < xs.length) : ((rowW xs ++ sp).drop (i * 4)).take 4 = wc (xs.getD i 0) := by
  have hl := rowW_length xs
  rw [List.drop_append_of_le_length (by omega), List.take_append_of_le_length (by rw [List.length_drop]; omega)]
  exact rowW_seg xs i h
theorem rowW_seg0 (xs : List Nat) (sp : List Value) (i : Nat) (h : i < xs.length) : ((rowW xs ++ sp).drop (0 + i * 4)).take 4 = wc (xs.getD i 0) := by
  rw [Nat.zero_add]; exact rowW_segs xs sp i h
theorem rowW_seg00 (xs : List Nat) (i : Nat) (h : i < xs.length) : ((rowW xs).drop (0 + i * 4)).take 4 = wc (xs.getD i 0) := by
  rw [Nat.zero_add]; exact rowW_seg xs i h
theorem rowW_segb (pr : List Value) (xs : List Nat) (i : Nat) (h : i < xs.length) : ((pr ++ rowW xs).drop (pr.length + i * 4)).take 4 = wc (xs.getD i 0) := by
  rw [List.drop_length_add_append]; exact rowW_seg xs i h
/-- A word written into a row. -/
theorem putW (xs : List Nat) (sp : List Value) (i x : Nat) (h : i < xs.length) : put (rowW xs ++ sp) (i * 4) (wc x) = rowW (xs.set i x) ++ sp := by
  have hl := rowW_length xs
  have hs : xs.set i x = xs.take i ++ x :: xs.drop (i + 1) := by rw [List.set_eq_take_append_cons_drop, if_pos h]
  unfold put
  rw [List.take_append_of_le_length (by omega), rowW_take, wc_length, show i * 4 + 4 = (i + 1) * 4 by omega, List.drop_append_of_le_length (by omega), rowW_drop, hs, rowW_append]
  simp [rowW]
theorem putW' (xs : List Nat) (i x : Nat) (h : i < xs.length) : put (rowW xs) (i * 4) (wc x) = rowW (xs.set i x) := by
  have := putW xs [] i x h; simpa using this
theorem putWb (pr : List Value) (xs : List Nat) (i x : Nat) (h : i < xs.length) : put (pr ++ rowW xs) (pr.length + i * 4) (wc x) = pr ++ rowW (xs.set i x) := by
  have := putW' xs i x h
  unfold put at this ⊢
  rw [List.take_length_add_append, Nat.add_assoc, List.drop_length_add_append, ← this]
  simp

theorem J.loadW (hk : nog k) (h : Nat) {e : Ent} {o : Nat} (he : lk l h = some e) (hx : ev σ x = some (.pointer (some ⟨e.id.getD 0, o, none⟩))) (ht : AggT P t 4) {u : Nat} (hv : (e.cs.drop o).take 4 = wc u) (hd : okd N d)
    (hJ : J P ops F w0 M N lS L (putd d (W u) σ) l) : J P ops F w0 M N lS ((⟨d, .load t x, ty, p, af, none⟩, k) :: L) σ l := J.loadN hk h he hx ht (wc u) rfl hv hd hJ
theorem J.loadWs (h : Nat) {e : Ent} {o : Nat} (he : lk lS h = some e) (hx : ev σ x = some (.pointer (some ⟨e.id.getD 0, o, none⟩))) (ht : AggT P t 4) {u : Nat} (hv : (e.cs.drop o).take 4 = wc u) (hd : okd N d)
    (hJ : J P ops F w0 M N lS L (putd d (W u) σ) l) : J P ops F w0 M N lS ((⟨d, .load t x, ty, p, af, none⟩, .s) :: L) σ l := J.loadNs h he hx ht (wc u) rfl hv hd hJ
theorem J.loadIW (hk : nog k) {A : Option Addr} {cs : List Value} {i : Nat} (hc : Cs w0 A cs) (ho : Off M A) (hx : ev σ x = some (.pointer (some ((A.getD default).add i)))) (ht : AggT P t 4) {u : Nat} (hv : (cs.drop i).take 4 = wc u) (hd : okd N d)
    (hJ : J P ops F w0 M N lS L (putd d (W u) σ) l) : J P ops F w0 M N lS ((⟨d, .load t x, ty, p, af, none⟩, k) :: L) σ l := J.loadIN hk hc ho hx ht (wc u) rfl hv hd hJ
theorem J.loadIWs {A : Option Addr} {cs : List Value} {i : Nat} (hc : Cs w0 A cs) (ho : Off M A) (hx : ev σ x = some (.pointer (some ((A.getD default).add i)))) (ht : AggT P t 4) {u : Nat} (hv : (cs.drop i).take 4 = wc u) (hd : okd N d)
    (hJ : J P ops F w0 M N lS L (putd d (W u) σ) l) : J P ops F w0 M N lS ((⟨d, .load t x, ty, p, af, none⟩, .s) :: L) σ l := J.loadINs hc ho hx ht (wc u) rfl hv hd hJ
theorem Cs.isSomeW {w : World} {A : Option Addr} {xs : List Nat} (h : Cs w A (rowW xs)) (hn : 0 < xs.length) : A.isSome = true := h.isSome (by rw [rowW_length]; omega)

/-! ### Bytes as strings -/
def bstr (xs : List Nat) : ByteArray := ⟨(xs.map UInt8.ofNat).toArray⟩
theorem bstr_fold (xs : List Nat) : ((xs.map (fun (n : Nat) => (n : Int))).foldl (fun r n => r.push (UInt8.ofNat n.toNat)) ByteArray.empty) = bstr xs := by
  have key : ∀ (xs : List Nat) (s : ByteArray), ((xs.map (fun (n : Nat) => (n : Int))).foldl (fun r n => r.push (UInt8.ofNat n.toNat)) s) = ⟨s.data ++ (xs.map UInt8.ofNat).toArray⟩ := by
    intro xs
    induction xs with
    | nil => intro s; simp
    | cons x xs ih =>
      intro s
      simp only [List.map_cons, List.foldl_cons, ih, Int.toNat_natCast]
      congr 1
      simp [ByteArray.push]
  rw [key]
  show (⟨#[] ++ _⟩ : ByteArray) = _
  simp [bstr]
theorem u8_inj {a b : Nat} (ha : a < 256) (hb : b < 256) (h : UInt8.ofNat a = UInt8.ofNat b) : a = b := by
  have := congrArg UInt8.toNat h
  simp at this
  omega
theorem bstr_inj {xs ys : List Nat} (hx : Dg xs) (hy : Dg ys) (h : bstr xs = bstr ys) : xs = ys := by
  have h1 : xs.map UInt8.ofNat = ys.map UInt8.ofNat := by
    have := congrArg ByteArray.data h
    simpa [bstr] using this
  clear h
  induction xs generalizing ys with
  | nil => cases ys with
    | nil => rfl
    | cons y ys => simp at h1
  | cons x xs ih =>
    cases ys with
    | nil => simp at h1
    | cons y ys =>
      simp only [List.map_cons, List.cons.injEq] at h1
      rw [u8_inj (hx x (by simp)) (hy y (by simp)) h1.1, ih (fun a ha => hx a (by simp [ha])) (fun a ha => hy a (by simp [ha])) h1.2]
theorem bstr_eq {xs ys : List Nat} (hx : Dg xs) (hy : Dg ys) : ((bstr xs).toList == (bstr ys).toList) = decide (xs = ys) := by
  by_cases h : xs = ys
  · subst h; simp
  · rw [decide_eq_false h]
    have e1 : ∀ zs, (bstr zs).toList = zs.map UInt8.ofNat := fun zs => by rw [ByteArray.toList_eq]; simp [bstr]
    rw [e1, e1]
    refine beq_eq_false_iff_ne.2 fun e => h (bstr_inj hx hy ?_)
    unfold bstr; rw [e]
theorem run_bstr {w : World} {A : Option Addr} {q cap : Nat} {xs : List Nat} (hq : xs.length = q) (hc : Cs w A (rowN .u8 xs)) : (Conv.bytesToString (.slice A q cap)).run P w = .ok (.string (bstr xs)) w := by
  cases A with
  | none =>
    cases xs with
    | nil => rfl
    | cons x xs => obtain ⟨ad, ha, _⟩ := hc 0 _ (by simp [rowN]; rfl); cases ha
  | some a =>
    rw [run_bytesToString w a q cap (xs.map (fun (n : Nat) => (n : Int))) (by
      have h1 : (xs.map (fun (n : Nat) => (n : Int))).map (Value.int .u8) = rowN .u8 xs := by simp [rowN]
      rw [h1, ← hq, ← rowN_length .u8 xs]
      exact run_loadCells_list (P := P) w a _ fun j u hj => by
        obtain ⟨ad, ha, h⟩ := hc j u hj
        simp at ha; subst ha; exact h), bstr_fold]
theorem J.convBS (hk : nog k) {src dst e q cap : Nat} {A : Option Addr} (hs : P.underlying src = some (.slice e)) (he : P.underlying e = some (.int .u8)) (ht : P.underlying dst = some .string) (hx : ev σ x = some (.slice A q cap)) (xs : List Nat) (hq : xs.length = q)
    (hA : ∀ w, WS w0 M l w → Cs w A (rowN .u8 xs)) (hd : okd N d) (h : J P ops F w0 M N lS L (putd d (.string (bstr xs)) σ) l) : J P ops F w0 M N lS ((⟨d, .convert src dst x, ty, p, af, none⟩, k) :: L) σ l :=
  J.quiet rfl hk hd _ (fun a ha w hw => by
    simp only [execOp, ha.eval hx, Sem.run_bind, run_convert_bytes_string w src dst e A q cap hs he ht, run_bstr hq (hA w hw), Result.andThen, Sem.run_pure]) h
theorem J.eqStr {t' : TypeId} {xs ys : List Nat} (hx : ev σ x = some (.string (bstr xs))) (hy : ev σ y = some (.string (bstr ys))) (hd : okd N d) (h1 : Dg xs) (h2 : Dg ys) (h : J P ops F w0 M N lS L (putd d (.bool (decide (xs = ys))) σ) l) :
    J P ops F w0 M N lS ((⟨d, .binOp .eql t x y t', ty, p, af, none⟩, k) :: L) σ l :=
  J.eqlR hx hy hd (fun w => by rw [eqGuard_at_string, ← bstr_eq h1 h2]; rfl) h
theorem J.neqStr {t' : TypeId} {xs ys : List Nat} (hx : ev σ x = some (.string (bstr xs))) (hy : ev σ y = some (.string (bstr ys))) (hd : okd N d) (h1 : Dg xs) (h2 : Dg ys) (h : J P ops F w0 M N lS L (putd d (.bool (decide (xs ≠ ys))) σ) l) :
    J P ops F w0 M N lS ((⟨d, .binOp .neq t x y t', ty, p, af, none⟩, k) :: L) σ l :=
  J.eqlR hx hy hd (fun w => by rw [eqGuard_at_string, decide_not, ← bstr_eq h1 h2]; rfl) h

/-! ### Comparing -/
theorem beq_cast (a b : Nat) : ((a : Int) == (b : Int)) = decide (a = b) := by
  by_cases h : a = b
  · subst h; simp
  · rw [decide_eq_false h]; simp; omega
theorem run_eqInts {len e : Nat} (hT : ArrT P t len e 1) (ho : OneT P e) (hk : P.underlying e = some (.int kd)) (d D : Nat) (hD : D = d + 1) (xs ys : List Nat) (hx : xs.length = len) (hy : ys.length = len) (w : World) :
    (Op.equalIn (D + 1) t (.agg (rowN kd xs).toArray) (.agg (rowN kd ys).toArray)).run P w = .ok (decide (xs = ys)) w := by
  have key : ∀ (f : Nat → Option Bool × Unit → Sem (ForInStep (Option Bool × Unit))),
      (∀ i s, f i s = (do
        if (!(← Op.equalIn D e (← part e (rowN kd xs).toArray (i * 1)) (← part e (rowN kd ys).toArray (i * 1)))) = true then Pure.pure (ForInStep.done (some false, ()))
          else Pure.pure (ForInStep.yield (none, ())))) → ∀ (G : Option Bool × Unit → Sem Bool), (∀ u, G (none, u) = Pure.pure true) → (∀ b u, G (some b, u) = Pure.pure b) → ∀ (j i : Nat), i + j = len → (∀ q, q < i → xs.getD q 0 = ys.getD q 0) →
      ((forIn (List.range' i j) ((none, ()) : Option Bool × Unit) f).run P w).andThen (fun r w' => (G r).run P w') = .ok (decide (xs = ys)) w := by
    intro f hf G hG1 hG2 j
    induction j with
    | zero =>
      intro i hi hpre
      have : xs = ys := by
        apply List.ext_getElem (by omega)
        intro q h1 h2
        have := hpre q (by omega)
        simpa [List.getD, h1, h2] using this
      simp [this, hG1]
    | succ j ih =>
      intro i hi hpre
      have hpx : (part e (rowN kd xs).toArray (i * 1)).run P w = .ok (.int kd (xs.getD i 0 : Nat)) w := run_part_one ho _ _ (by rw [List.getElem?_toArray]; exact rowN_get1 _ _ _ (by omega)) w
      have hpy : (part e (rowN kd ys).toArray (i * 1)).run P w = .ok (.int kd (ys.getD i 0 : Nat)) w := run_part_one ho _ _ (by rw [List.getElem?_toArray]; exact rowN_get1 _ _ _ (by omega)) w
      have heq : (Op.equalIn D e (.int kd (xs.getD i 0 : Nat)) (.int kd (ys.getD i 0 : Nat))).run P w = .ok (decide (xs.getD i 0 = ys.getD i 0)) w := by
        rw [hD, run_equalIn_int w d e kd kd _ _ hk, beq_cast]
      have ih' := ih (i + 1) (by omega)
      simp only [List.range'_succ, List.forIn_cons, Sem.run_bind, hf, hpx, hpy, heq, Result.andThen_ok]
      by_cases h : xs.getD i 0 = ys.getD i 0
      · simp only [decide_eq_true h, Bool.not_true, Bool.false_eq_true, if_false, Sem.run_pure, Result.andThen_ok]
        refine ih' fun q hq => ?_
        rcases Nat.lt_or_ge q i with h1 | h1
        · exact hpre q h1
        · obtain rfl : q = i := by omega
          exact h
      · have hne : xs ≠ ys := fun e => h (by rw [e])
        simp only [decide_eq_false h, decide_eq_false hne, Bool.not_false, if_true, Sem.run_pure, Result.andThen_ok, hG2]
  simp only [Op.equalIn, Sem.run_bind, run_underlying hT.1, Result.andThen_ok, run_sizeOf hT.2, Std.Legacy.Range.forIn_eq_forIn_range', Std.Legacy.Range.size]
  simp only [Nat.sub_zero, Nat.add_sub_cancel, Nat.div_one]
  exact key _ (fun _ _ => rfl) _ (fun _ => rfl) (fun _ _ => rfl) len 0 (by omega) (fun q hq => by omega)

/-- Words. -/
def EqT (P : Program) (t : TypeId) : Prop := (∃ e, ArrT P t 4 e 1 ∧ OneT P e ∧ P.underlying e = some (.int .u64)) ∧ P.eqGuardType P.depth t = false
theorem wl_eq (a b : Nat) : decide (wl a = wl b) = decide (a % 2 ^ 256 = b % 2 ^ 256) := by
  have e : ∀ x : Nat, x % 2 ^ 256 = lim x 0 + 18446744073709551616 * (lim x 1 + 18446744073709551616 * (lim x 2 + 18446744073709551616 * lim x 3)) := by
    intro x
    unfold lim
    omega
  by_cases h : wl a = wl b
  · rw [decide_eq_true h]
    unfold wl at h
    simp only [List.cons.injEq, and_true] at h
    rw [decide_eq_true]
    rw [e a, e b, h.1, h.2.1, h.2.2.1, h.2.2.2]
  · rw [decide_eq_false h, decide_eq_false]
    intro h2
    apply h
    rw [e a, e b] at h2
    have l0 := lim_lt a 0; have l1 := lim_lt a 1; have l2 := lim_lt a 2; have l3 := lim_lt a 3
    have k0 := lim_lt b 0; have k1 := lim_lt b 1; have k2 := lim_lt b 2; have k3 := lim_lt b 3
    unfold wl
    rw [show lim a 0 = lim b 0 by omega, show lim a 1 = lim b 1 by omega, show lim a 2 = lim b 2 by omega, show lim a 3 = lim b 3 by omega]
theorem run_eqW (hT : EqT P t) (a b : Nat) (w : World) : (Op.equal t (W a) (W b)).run P w = .ok (decide (a % 2 ^ 256 = b % 2 ^ 256)) w := by
  obtain ⟨⟨e, h1, h2, h3⟩, _⟩ := hT
  rw [← wl_eq]
  exact run_eqInts h1 h2 h3 9998 9999 rfl (wl a) (wl b) rfl rfl w
theorem J.eqW {t' : TypeId} {x1 x2 : Nat} (hT : EqT P t) (hx : ev σ x = some (W x1)) (hy : ev σ y = some (W x2)) (hd : okd N d) (h : J P ops F w0 M N lS L (putd d (.bool (decide (x1 % 2 ^ 256 = x2 % 2 ^ 256))) σ) l) :
    J P ops F w0 M N lS ((⟨d, .binOp .eql t x y t', ty, p, af, none⟩, k) :: L) σ l :=
  J.eqlR hx hy hd (fun w => by
    simp only [Sem.run_bind, run_eqGuard_agg w .eql t x y _ _ hT.2, Result.andThen_ok, binOp, run_eqW hT, Sem.run_pure]) h
theorem J.neqW {t' : TypeId} {x1 x2 : Nat} (hT : EqT P t) (hx : ev σ x = some (W x1)) (hy : ev σ y = some (W x2)) (hd : okd N d) (h : J P ops F w0 M N lS L (putd d (.bool (decide (¬ x1 % 2 ^ 256 = x2 % 2 ^ 256))) σ) l) :
    J P ops F w0 M N lS ((⟨d, .binOp .neq t x y t', ty, p, af, none⟩, k) :: L) σ l :=
  J.eqlR hx hy hd (fun w => by
    simp only [Sem.run_bind, run_eqGuard_agg w .neq t x y _ _ hT.2, Result.andThen_ok, binOp, run_eqW hT, Sem.run_pure, decide_not]) h
/-- A pointer against nil. -/
theorem J.eqNil {t' : TypeId} {A : Option Addr} (ht : P.underlying t = some (.pointer (P.pointee t))) (hx : ev σ x = some (.pointer A)) (hy : ev σ y = some (.pointer none)) (hd : okd N d) (hz : A.isNone = b) (h : J P ops F w0 M N lS L (putd d (.bool b) σ) l) :
    J P ops F w0 M N lS ((⟨d, .binOp .eql t x y t', ty, p, af, none⟩, k) :: L) σ l :=
  J.eqlR hx hy hd (fun w => by subst hz; rw [eqGuard_at_pointer]; exact run_eql_pointer_nil w t A ht) h
theorem J.neqNil {t' : TypeId} {A : Option Addr} (ht : P.underlying t = some (.pointer (P.pointee t))) (hx : ev σ x = some (.pointer A)) (hy : ev σ y = some (.pointer none)) (hd : okd N d) (hz : (!A.isNone) = b) (h : J P ops F w0 M N lS L (putd d (.bool b) σ) l) :
    J P ops F w0 M N lS ((⟨d, .binOp .neq t x y t', ty, p, af, none⟩, k) :: L) σ l :=
  J.eqlR hx hy hd (fun w => by subst hz; rw [eqGuard_at_pointer]; exact run_neq_pointer_nil w t A ht) h
/-- Truths. -/
theorem J.neqB {t' : TypeId} {b1 b2 : Bool} (ht : P.underlying t = some .bool) (hx : ev σ x = some (.bool b1)) (hy : ev σ y = some (.bool b2)) (hd : okd N d) (hz : (!(b1 == b2)) = b) (h : J P ops F w0 M N lS L (putd d (.bool b) σ) l) :
    J P ops F w0 M N lS ((⟨d, .binOp .neq t x y t', ty, p, af, none⟩, k) :: L) σ l :=
  J.eqlR hx hy hd (fun w => by
    subst hz
    have := run_equalIn_bool' (P := P) w 9999 t b1 b2 ht
    simp only [eqGuard_at_bool, Sem.run_bind, Sem.run_pure, Result.andThen_ok, binOp, Op.equal, Op.maxDepth, this]) h
theorem J.eqB {t' : TypeId} {b1 b2 : Bool} (ht : P.underlying t = some .bool) (hx : ev σ x = some (.bool b1)) (hy : ev σ y = some (.bool b2)) (hd : okd N d) (hz : (b1 == b2) = b) (h : J P ops F w0 M N lS L (putd d (.bool b) σ) l) :
    J P ops F w0 M N lS ((⟨d, .binOp .eql t x y t', ty, p, af, none⟩, k) :: L) σ l :=
  J.eqlR hx hy hd (fun w => by
    subst hz
    have := run_equalIn_bool' (P := P) w 9999 t b1 b2 ht
    simp only [eqGuard_at_bool, Sem.run_bind, Sem.run_pure, Result.andThen_ok, binOp, Op.equal, Op.maxDepth, this]) h

/-! ### 'copy' -/
theorem J.copy (h : Nat) (hh : lk lS h = none) {e : Ent} {el size o q dLen dCap sLen sCap : Nat} {D A : Option Addr} {news : List Value} {sT : TypeId} (ht : SlT P t el size) (hs0 : 0 < size) (he : lk l h = some e) (hx : ev σ x = some (.slice D dLen dCap)) (hy : ev σ y = some (.slice A sLen sCap))
    (hD : news ≠ [] → D = some ⟨e.id.getD 0, o, none⟩) (hq : min sLen dLen = q) (hn : news.length = q * size) (hA : ∀ w, WS w0 M l w → Cs w A news) (h1 : ∀ u ∈ news, u.oneCell' = true) (hfit : o + news.length ≤ e.cs.length) (hd : okd N d) (cs' : List Value) (hcs : put e.cs o news = cs')
    (hJ : J P ops F w0 M N lS L (putd d (.int .i64 (q : Int)) σ) ((h, ⟨e.id, e.t, cs'⟩) :: l)) : J P ops F w0 M N lS ((⟨d, .call ⟨.builtin .copy, #[x, y], #[t, sT]⟩, ty, p, af, none⟩, .l) :: L) σ l :=
  J.loud rfl hd (ι := Unit) (fun _ => True) (fun _ => .int .i64 (q : Int)) (fun _ => (h, ⟨e.id, e.t, cs'⟩) :: l) (fun _ _ hs => hs.fresh hh) (fun a ha w hw => by
    rw [run_builtin ha (args := [.slice D dLen dCap, .slice A sLen sCap]) (by simp [evs, hx, hy]) w]
    have hmin : Nat.min sLen dLen = q := hq
    have hc := hA w hw
    by_cases hz : news = []
    · subst hz
      have hq0 : q = 0 := by
        have h3 : q * size = 0 := by simpa using hn.symm
        rcases Nat.mul_eq_zero.1 h3 with h4 | h4
        · exact h4
        · omega
      subst hq0
      have hput : put e.cs o [] = e.cs := by simp [put]
      rw [hput] at hcs
      subst hcs
      have hrun : (Builtin.copy_ #[t, sT] ty #[.slice D dLen dCap, .slice A sLen sCap]).run P w = .ok (goInt 0) w := by
        have hl : ∀ (x : Addr), (loadCells x 0).run P w = .ok #[] w := fun x => by simpa using run_loadCells_list (P := P) w x [] (by simp)
        cases D <;> cases A <;> simp [Builtin.copy_, run_underlying ht.1, Builtin.lenOf, Builtin.firstCells, run_sizeOf ht.2, hmin, storeCells, hl]
      simp only [builtin, Sem.run_bind, hrun, Result.andThen]
      exact ⟨(), trivial, rfl, hw.sub (Sub.cons he (Sub.refl _))⟩
    · obtain rfl := hD hz
      obtain ⟨ad, rfl⟩ : ∃ ad, A = some ad := by
        cases hne : news with
        | nil => exact absurd hne hz
        | cons u us => obtain ⟨ad, h2, _⟩ := hc 0 u (by simp [hne]); exact ⟨ad, h2⟩
      have hat := hw.live h e he
      cases hid : e.id with
      | none =>
        simp only [Ent.At, hid] at hat
        rw [hat.1] at hfit
        simp at hfit
        exact absurd hfit.2 hz
      | some g =>
        have hld : (loadCells ad (q * size)).run P w = .ok news.toArray w := by
          rw [← hn]
          exact run_loadCells_list (P := P) w ad news fun j u hj => by
            obtain ⟨ad', h2, h3⟩ := hc j u hj
            simp at h2; subst h2; exact h3
        have hst := run_store_ent (P := P) hid hat news hfit h1
        have hset := hw.set he hid (put e.cs o news)
        rw [hcs, hid] at hset
        have hrun : (Builtin.copy_ #[t, sT] ty #[.slice (some ⟨g, o, none⟩) dLen dCap, .slice (some ad) sLen sCap]).run P w = .ok (.int .i64 (q : Int)) (w.setRow g cs'.toArray) := by
          simp [Builtin.copy_, run_underlying ht.1, Builtin.lenOf, Builtin.firstCells, run_sizeOf ht.2, hmin, hld, hst, hcs, goInt]
        simp only [Option.getD_some, builtin, Sem.run_bind, hrun, Result.andThen]
        exact ⟨(), trivial, rfl, hset⟩) (fun _ _ => hJ)

/-! ### Adding with a carry -/
theorem J.add64 {f : FuncId} {fn : Func} {x y c : Operand} {tys : Array TypeId} (hf : P.funcs[f]? = some fn) (hname : (fn.name == "runtime.NumGoroutine") = false) (hb : fn.body.isNone = true) (hn : Extern.findNext fn = none) (he : Extern.find fn = some add64Entry) {a1 a2 cc : Nat}
    (hx : ev σ x = some (.int .u64 (a1 : Int))) (hy : ev σ y = some (.int .u64 (a2 : Int))) (hc : ev σ c = some (.int .u64 (cc : Int))) (h1 : cc ≤ 1) (hd : okd N d)
    (h : J P ops F w0 M N lS L (putd d (.tuple [.int .u64 (((a1 + a2 + cc) % 18446744073709551616 : Nat) : Int), .int .u64 (((a1 + a2 + cc) / 18446744073709551616 : Nat) : Int)].toArray) σ) l) :
    J P ops F w0 M N lS ((⟨d, .call ⟨.value (.func f), #[x, y, c], tys⟩, ty, p, af, none⟩, k) :: L) σ l :=
  J.extern hf hname hb hn he (args := [.int .u64 (a1 : Int), .int .u64 (a2 : Int), .int .u64 (cc : Int)]) (by simp [evs, hx, hy, hc]) hd (fun w => by
    rw [run_add64 _ _ _ (by omega) (by omega) (by omega) (by omega)]
    rfl) h
def sub64E : Array Value → Sem Value := fun args => do
  let (x, y, b) ← Extern.MathBitsCarry.three "Sub64" args
  pure (Extern.MathBitsCarry.pair ((x + Extern.MathBitsCarry.m64 - y - b) % Extern.MathBitsCarry.m64) (if x < y + b then 1 else 0))
theorem J.sub64 {f : FuncId} {fn : Func} {x y c : Operand} {tys : Array TypeId} (hf : P.funcs[f]? = some fn) (hname : (fn.name == "runtime.NumGoroutine") = false) (hb : fn.body.isNone = true) (hn : Extern.findNext fn = none) (he : Extern.find fn = some sub64E) {a1 a2 cc : Nat}
    (hx : ev σ x = some (.int .u64 (a1 : Int))) (hy : ev σ y = some (.int .u64 (a2 : Int))) (hc : ev σ c = some (.int .u64 (cc : Int))) (h1 : cc ≤ 1) (hd : okd N d)
    (h : J P ops F w0 M N lS L (putd d (.tuple [.int .u64 (((a1 + 18446744073709551616 - a2 - cc) % 18446744073709551616 : Nat) : Int), .int .u64 ((if a1 < a2 + cc then 1 else 0 : Nat) : Int)].toArray) σ) l) :
    J P ops F w0 M N lS ((⟨d, .call ⟨.value (.func f), #[x, y, c], tys⟩, ty, p, af, none⟩, k) :: L) σ l :=
  J.extern hf hname hb hn he (args := [.int .u64 (a1 : Int), .int .u64 (a2 : Int), .int .u64 (cc : Int)]) (by simp [evs, hx, hy, hc]) hd (fun w => by
    have : cc = 0 ∨ cc = 1 := by omega
    rcases this with rfl | rfl <;> rfl) h
/-- A table of bytes in a constant string. -/
theorem J.indexTab {s : ByteArray} {i : Nat} {f : Nat → Nat} (ht : P.underlying t = some .string) (hx : ev σ x = some (.string s)) (tab : ∀ j : Fin 256, (s.data.toList[j.val]?).map UInt8.toNat = some (f j.val)) (hy : ev σ y = some (.int kd (i : Int))) (hi : i < 256) (hd : okd N d)
    (hJ : J P ops F w0 M N lS L (putd d (.int .u8 (f i : Nat)) σ) l) : J P ops F w0 M N lS ((⟨d, .index t x y, ty, p, af, none⟩, k) :: L) σ l := by
  have h1 := tab ⟨i, hi⟩
  simp only [Option.map_eq_some_iff] at h1
  obtain ⟨u, hu, hf⟩ := h1
  refine J.indexStr ht hx hy (Int.natCast_nonneg _) (Int.toNat_natCast _) hu hd ?_
  rw [hf]; exact hJ
end Go.Fw
