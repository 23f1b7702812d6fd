/-
  Rules for addresses, parts, slices, literals, calls.
  No condition: plain lemmas.
-/
import Derived.Test.YtpkjbeebhdgleaaFc
import Derived.Laws.Externs
set_option linter.unusedVariables false
namespace Go.Fw
open Go
variable {P : Program} {ops : Array Oper} {F : Act → World → Prop} {w0 : World} {M : List Nat} {N : Nf} {L : List (Oper × K)} {σ : List (Nat × Value)} {l lS : List (Nat × Ent)} {k : K}
  {d : Option Tmp} {ty : TypeId} {p : String} {af : Array Edge} {v v1 v2 z : Value} {x y c : Operand} {t : TypeId} {kd : IntKind} {n m r : Int} {b : Bool}

theorem add_lit' (g o i : Nat) : (⟨g, o, none⟩ : Addr).add i = ⟨g, o + i, none⟩ := by unfold Addr.add; split <;> simp_all

/-! ### Fields -/
def SizeT (P : Program) (t : TypeId) (n : Nat) : Prop := (P.info? t).map (·.size) = some n
/-- Field number i of the struct type s: its type, its place, its cells. -/
def FldT (P : Program) (s : TypeId) (i : Nat) (ft : TypeId) (off sz : Nat) : Prop :=
  (match P.underlying s with | some (.struct fs) => (fs[i]?).map (fun f => (f.type, f.offset)) | _ => none) = some (ft, off) ∧ SizeT P ft (sz + 1)

theorem FldT.open {s i ft off sz : Nat} (h : FldT P s i ft off sz) : ∃ fs f, P.underlying s = some (.struct fs) ∧ fs[i]? = some f ∧ f.type = ft ∧ f.offset = off := by
  obtain ⟨h1, _⟩ := h
  cases hu : P.underlying s with
  | none => simp [hu] at h1
  | some dd =>
    cases dd with
    | struct fs =>
      simp only [hu] at h1
      cases hf : fs[i]? with
      | none => simp [hf] at h1
      | some f => simp [hf] at h1; exact ⟨fs, f, rfl, hf, h1.1, h1.2⟩
    | _ => simp [hu] at h1

theorem run_fieldAt {s i ft off sz : Nat} (hf : FldT P s i ft off sz) (ad : Addr) (w : World) : (Instr.fieldAt s (.pointer (some ad)) i).run P w = .ok (.pointer (some (ad.add off))) w := by
  obtain ⟨fs, f, h1, h2, h3, h4⟩ := hf.open
  subst h3; subst h4
  simp [Instr.fieldAt, run_underlying h1, h2, Instr.sureAddr, fieldPlace, run_sizeOf hf.2]

theorem J.fieldAddr {s i ft off sz g o : Nat} (hf : FldT P s i ft off sz) (hx : ev σ x = some (.pointer (some ⟨g, o, none⟩))) (hd : okd N d) (hJ : J P ops F w0 M N lS L (putd d (.pointer (some ⟨g, o + off, none⟩)) σ) l) :
    J P ops F w0 M N lS ((⟨d, .fieldAddr s x i, ty, p, af, none⟩, k) :: L) σ l :=
  J.pure rfl hd _ (fun a ha w => by simp [execOp, ha.eval hx, run_fieldAt hf, add_lit']) hJ
/-- Of what lay there when the call began. -/
theorem J.fieldAddrI {s i ft off sz j : Nat} {ad : Addr} (hf : FldT P s i ft off sz) (hx : ev σ x = some (.pointer (some (ad.add j)))) (hd : okd N d) (hJ : J P ops F w0 M N lS L (putd d (.pointer (some (ad.add (j + off)))) σ) l) :
    J P ops F w0 M N lS ((⟨d, .fieldAddr s x i, ty, p, af, none⟩, k) :: L) σ l :=
  J.pure rfl hd _ (fun a ha w => by simp [execOp, ha.eval hx, run_fieldAt hf, Addr.add_add]) hJ

theorem run_part_agg {n : Nat} (ht : AggT P t n) (cs : Array Value) (o : Nat) (w : World) : (part t cs o).run P w = .ok (.agg (cs.extract o (o + n))) w := by
  obtain ⟨⟨dd, hd, hdd⟩, hs⟩ := ht
  simp [part, run_isAgg hd, hdd, run_sizeOf hs]
theorem run_part_one (ht : OneT P t) (cs : Array Value) (o : Nat) (h : cs[o]? = some v) (w : World) : (part t cs o).run P w = .ok v w := by
  obtain ⟨⟨dd, hd, hdd⟩, hs⟩ := ht
  simp [part, run_isAgg hd, hdd, h]

theorem J.field1 {s i ft off sz : Nat} {cs : List Value} (hf : FldT P s i ft off sz) (ht : OneT P ft) (hx : ev σ x = some (.agg cs.toArray)) (hv : cs[off]? = some v) (hd : okd N d) (hJ : J P ops F w0 M N lS L (putd d v σ) l) :
    J P ops F w0 M N lS ((⟨d, .field s x i, ty, p, af, none⟩, k) :: L) σ l :=
  J.pure rfl hd _ (fun a ha w => by
    obtain ⟨fs, f, h1, h2, h3, h4⟩ := hf.open
    subst h3; subst h4
    have := run_part_one (P := P) ht cs.toArray f.offset (by simpa using hv) w
    simp [execOp, ha.eval hx, Instr.field, run_underlying h1, h2, asAgg, this]) hJ
theorem J.fieldN {s i ft off sz : Nat} {cs : List Value} (hf : FldT P s i ft off sz) (ht : AggT P ft (sz + 1)) (hx : ev σ x = some (.agg cs.toArray)) (vs : List Value) (hv : (cs.drop off).take (sz + 1) = vs) (hd : okd N d) (hJ : J P ops F w0 M N lS L (putd d (.agg vs.toArray) σ) l) :
    J P ops F w0 M N lS ((⟨d, .field s x i, ty, p, af, none⟩, k) :: L) σ l :=
  J.pure rfl hd _ (fun a ha w => by
    obtain ⟨fs, f, h1, h2, h3, h4⟩ := hf.open
    subst h3; subst h4
    have := run_part_agg (P := P) ht cs.toArray f.offset w
    have e : cs.toArray.extract f.offset (f.offset + (sz + 1)) = vs.toArray := by
      rw [← hv, List.extract_toArray]
      congr 1
      simp [List.extract_eq_take_drop]
    simp [execOp, ha.eval hx, Instr.field, run_underlying h1, h2, asAgg, this, e]) hJ

/-! ### Indexes -/
def ArrT (P : Program) (t : TypeId) (len : Nat) (e : TypeId) (s : Nat) : Prop := P.underlying t = some (.array len e) ∧ SizeT P e s
def SlT (P : Program) (t : TypeId) (e : TypeId) (s : Nat) : Prop := P.underlying t = some (.slice e) ∧ SizeT P e s

theorem J.indexArr {len e s g o i : Nat} (ht : ArrT P t len e s) (hx : ev σ x = some (.pointer (some ⟨g, o, none⟩))) (hy : ev σ y = some (.int kd n)) (h0 : 0 ≤ n) (h1 : n < len) (hi : n.toNat = i) (hd : okd N d)
    (hJ : J P ops F w0 M N lS L (putd d (.pointer (some ⟨g, o + i * s, none⟩)) σ) l) : J P ops F w0 M N lS ((⟨d, .indexAddr t x y, ty, p, af, none⟩, k) :: L) σ l :=
  J.pure rfl hd _ (fun a ha w => by
    subst hi
    simp [execOp, ha.eval hx, ha.eval hy, Instr.indexAt, asIntOf, run_underlying ht.1, Instr.sureAddr, h0, h1, run_sizeOf ht.2, add_lit']) hJ
theorem J.indexSlI {e s q cap i : Nat} {A : Option Addr} (ht : SlT P t e s) (hx : ev σ x = some (.slice A q cap)) (hA : A.isSome = true) (hy : ev σ y = some (.int kd n)) (h0 : 0 ≤ n) (h1 : n < q) (hi : n.toNat = i) (hd : okd N d)
    (hJ : J P ops F w0 M N lS L (putd d (.pointer (some ((A.getD default).add (i * s)))) σ) l) : J P ops F w0 M N lS ((⟨d, .indexAddr t x y, ty, p, af, none⟩, k) :: L) σ l :=
  J.pure rfl hd _ (fun a ha w => by
    subst hi
    cases A with
    | none => simp at hA
    | some ad => simp [execOp, ha.eval hx, ha.eval hy, Instr.indexAt, asIntOf, run_underlying ht.1, h0, h1, run_sizeOf ht.2]) hJ
/-- The head of a row of one's own. -/
def hdOf (id : Option Nat) : Option Addr := id.map fun g => ⟨g, 0, none⟩
theorem J.indexRow {e s q cap i : Nat} {id : Option Nat} (ht : SlT P t e s) (hx : ev σ x = some (.slice (hdOf id) q cap)) (hid : id.isSome = true) (hy : ev σ y = some (.int kd n)) (h0 : 0 ≤ n) (h1 : n < q) (hi : n.toNat = i) (hd : okd N d)
    (hJ : J P ops F w0 M N lS L (putd d (.pointer (some ⟨id.getD 0, i * s, none⟩)) σ) l) : J P ops F w0 M N lS ((⟨d, .indexAddr t x y, ty, p, af, none⟩, k) :: L) σ l :=
  J.pure rfl hd _ (fun a ha w => by
    subst hi
    cases id with
    | none => simp at hid
    | some g => simp [execOp, ha.eval hx, ha.eval hy, hdOf, Instr.indexAt, asIntOf, run_underlying ht.1, h0, h1, run_sizeOf ht.2, add_lit']) hJ
/-- A slice of a block. -/
theorem J.indexSlB {e s q cap i g o : Nat} (ht : SlT P t e s) (hx : ev σ x = some (.slice (some ⟨g, o, none⟩) q cap)) (hy : ev σ y = some (.int kd n)) (h0 : 0 ≤ n) (h1 : n < q) (hi : n.toNat = i) (hd : okd N d)
    (hJ : J P ops F w0 M N lS L (putd d (.pointer (some ⟨g, o + i * s, none⟩)) σ) l) : J P ops F w0 M N lS ((⟨d, .indexAddr t x y, ty, p, af, none⟩, k) :: L) σ l :=
  J.pure rfl hd _ (fun a ha w => by
    subst hi
    simp [execOp, ha.eval hx, ha.eval hy, Instr.indexAt, asIntOf, run_underlying ht.1, h0, h1, run_sizeOf ht.2, add_lit']) hJ
theorem J.index1 {len e s i : Nat} {cs : List Value} (ht : ArrT P t len e s) (he : OneT P e) (hx : ev σ x = some (.agg cs.toArray)) (hy : ev σ y = some (.int kd n)) (h0 : 0 ≤ n) (h1 : n < len) (hi : n.toNat = i) (hv : cs[i * s]? = some v) (hd : okd N d)
    (hJ : J P ops F w0 M N lS L (putd d v σ) l) : J P ops F w0 M N lS ((⟨d, .index t x y, ty, p, af, none⟩, k) :: L) σ l :=
  J.pure rfl hd _ (fun a ha w => by
    subst hi
    have := run_part_one (P := P) he cs.toArray (n.toNat * s) (by simpa using hv) w
    simp [execOp, ha.eval hx, ha.eval hy, Instr.index, asIntOf, run_underlying ht.1, h0, h1, run_sizeOf ht.2, this]) hJ
theorem J.indexStr {s : ByteArray} {i : Nat} {u : UInt8} (ht : P.underlying t = some .string) (hx : ev σ x = some (.string s)) (hy : ev σ y = some (.int kd n)) (h0 : 0 ≤ n) (hi : n.toNat = i) (hv : s.data.toList[i]? = some u) (hd : okd N d)
    (hJ : J P ops F w0 M N lS L (putd d (.int .u8 u.toNat) σ) l) : J P ops F w0 M N lS ((⟨d, .index t x y, ty, p, af, none⟩, k) :: L) σ l :=
  J.pure rfl hd _ (fun a ha w => by
    subst hi
    have : s[n.toNat]? = some u := by
      rw [Array.getElem?_toList] at hv
      have h2 := (Array.getElem?_eq_some_iff.1 hv)
      have hlt : n.toNat < s.size := h2.1
      rw [getElem?_pos s n.toNat hlt]
      exact congrArg some h2.2
    simp [execOp, ha.eval hx, ha.eval hy, Instr.index, asIntOf, run_underlying ht, h0, this]) hJ

/-! ### Pieces -/
def optInt (σ : List (Nat × Value)) (x : Option Operand) (dflt : Nat) (i : Nat) : Prop := match x with
  | none => i = dflt
  | some y => ∃ kd n, ev σ y = some (.int kd n) ∧ 0 ≤ n ∧ n.toNat = i
theorem optInt.none {dflt : Nat} : optInt σ none dflt dflt := rfl
theorem optInt.some {dflt i : Nat} (hy : ev σ y = some (.int kd n)) (h0 : 0 ≤ n) (hi : n.toNat = i) : optInt σ (some y) dflt i := ⟨kd, n, hy, h0, hi⟩

theorem run_sliceBound {i q : Nat} {code : BoundsCode} (h0 : 0 ≤ n) (hi : n.toNat = i) (hq : i ≤ q) (w : World) : (Instr.sliceBound (.int kd n) q code).run P w = .ok i w := by
  subst hi
  simp [Instr.sliceBound, asIntOf, h0, show n ≤ (q : Int) by omega]

theorem run_sliceBounds {a : Act} (ha : Has N σ a) {isS : Bool} {len cap lo hi mx : Nat} {xl xh xm : Option Operand} (hl : optInt σ xl 0 lo) (hh : optInt σ xh len hi) (hm : optInt σ xm cap mx) (hmh : xm.isSome = true → xh.isSome = true)
    (h1 : lo ≤ hi) (h2 : hi ≤ mx) (h3 : mx ≤ cap) (w : World) : (Instr.sliceBounds isS len cap (xl.map a.eval) (xh.map a.eval) (xm.map a.eval)).run P w = .ok (lo, hi, mx) w := by
  have hL : ∀ q code w, lo ≤ q → (match xl.map a.eval with | some v => Instr.sliceBound v q code | none => Pure.pure 0 : Sem Nat).run P w = .ok lo w := by
    intro q code w hq
    cases xl with
    | none => simp only [optInt] at hl; subst hl; rfl
    | some y => obtain ⟨kd, n, hy, h0, hi'⟩ := hl; simp only [Option.map_some, ha.eval hy]; exact run_sliceBound h0 hi' hq w
  cases xm with
  | none =>
    simp only [optInt] at hm
    subst hm
    cases xh with
    | none =>
      simp only [optInt] at hh
      subst hh
      have := hL hi .sliceB w h1
      simp only [Instr.sliceBounds, Option.map_none, Option.isSome_none, Bool.false_eq_true, if_false, Sem.run_bind, Sem.run_pure, Result.andThen] at this ⊢
      cases hx : xl.map a.eval <;> simp_all
    | some y =>
      obtain ⟨kd, n, hy, h0, hi'⟩ := hh
      have := hL hi .sliceB w h1
      have h4 := run_sliceBound (P := P) (kd := kd) (code := if isS then .sliceAcap else .sliceAlen) h0 hi' h2 w
      simp only [Instr.sliceBounds, Option.map_none, Option.map_some, ha.eval hy, Option.isSome_none, Bool.false_eq_true, if_false, Sem.run_bind, Sem.run_pure, Result.andThen, h4] at this ⊢
      cases hx : xl.map a.eval <;> simp_all
  | some z =>
    obtain ⟨km, q, hz, hq0, hqi⟩ := hm
    cases xh with
    | none => simp at hmh
    | some y =>
      obtain ⟨kd, n, hy, h0, hi'⟩ := hh
      have := hL hi .slice3C w h1
      have h4 := run_sliceBound (P := P) (kd := kd) (code := .slice3B) h0 hi' h2 w
      have h5 := run_sliceBound (P := P) (kd := km) (code := if isS then .slice3Acap else .slice3Alen) hq0 hqi h3 w
      simp only [Instr.sliceBounds, Option.map_some, ha.eval hy, ha.eval hz, Option.isSome_some, if_true, Sem.run_bind, Result.andThen, h4, h5] at this ⊢
      cases hx : xl.map a.eval <;> simp_all

/-- A piece of an array: of a block. -/
theorem J.sliceArr {len e s g o lo hi mx : Nat} {xl xh xm : Option Operand} (ht : ArrT P t len e s) (hx : ev σ x = some (.pointer (some ⟨g, o, none⟩))) (hl : optInt σ xl 0 lo) (hh : optInt σ xh len hi) (hm : optInt σ xm len mx) (hmh : xm.isSome = true → xh.isSome = true)
    (h1 : lo ≤ hi) (h2 : hi ≤ mx) (h3 : mx ≤ len) (hd : okd N d) (hv : Value.slice (some (if mx = lo then ⟨g, o, none⟩ else ⟨g, o + lo * s, none⟩)) (hi - lo) (mx - lo) = v)
    (hJ : J P ops F w0 M N lS L (putd d v σ) l) : J P ops F w0 M N lS ((⟨d, .slice t x xl xh xm, ty, p, af, none⟩, k) :: L) σ l :=
  J.pure rfl hd _ (fun a ha w => by
    subst hv
    simp [execOp, ha.eval hx, Instr.sliceAt, run_underlying ht.1, Instr.sureAddr, run_sliceBounds ha hl hh hm hmh h1 h2 h3, run_sizeOf ht.2, add_lit']) hJ
/-- A piece of a slice. -/
theorem J.sliceSl {e s q cap lo hi mx : Nat} {A : Option Addr} {xl xh xm : Option Operand} (ht : SlT P t e s) (hx : ev σ x = some (.slice A q cap)) (hl : optInt σ xl 0 lo) (hh : optInt σ xh q hi) (hm : optInt σ xm cap mx) (hmh : xm.isSome = true → xh.isSome = true)
    (h1 : lo ≤ hi) (h2 : hi ≤ mx) (h3 : mx ≤ cap) (hd : okd N d) (hv : Value.slice (if mx = lo then A else A.map (·.add (lo * s))) (hi - lo) (mx - lo) = v)
    (hJ : J P ops F w0 M N lS L (putd d v σ) l) : J P ops F w0 M N lS ((⟨d, .slice t x xl xh xm, ty, p, af, none⟩, k) :: L) σ l :=
  J.pure rfl hd _ (fun a ha w => by
    subst hv
    simp [execOp, ha.eval hx, Instr.sliceAt, Instr.slice, run_underlying ht.1, run_sliceBounds ha hl hh hm hmh h1 h2 h3, run_sizeOf ht.2]) hJ
theorem J.sliceStr {s : ByteArray} {lo hi : Nat} {xl xh : Option Operand} (ht : P.underlying t = some .string) (hx : ev σ x = some (.string s)) (hl : optInt σ xl 0 lo) (hh : optInt σ xh s.size hi)
    (h1 : lo ≤ hi) (h2 : hi ≤ s.size) (hd : okd N d) (hJ : J P ops F w0 M N lS L (putd d (.string (s.extract lo hi)) σ) l) : J P ops F w0 M N lS ((⟨d, .slice t x xl xh none, ty, p, af, none⟩, k) :: L) σ l :=
  J.pure rfl hd _ (fun a ha w => by
    have := run_sliceBounds (P := P) (isS := false) ha hl hh (optInt.none (dflt := s.size)) (by simp) h1 h2 (Nat.le_refl _) w
    simp only [Option.map_none] at this
    simp [execOp, ha.eval hx, Instr.sliceAt, Instr.slice, run_underlying ht, this]) hJ

/-! ### Calls -/
def FnOk (P : Program) (f : FuncId) : Prop := ∃ fn, P.funcs[f]? = some fn ∧ (fn.name == "runtime.NumGoroutine") = false ∧ fn.body.isNone = false
theorem FnOk.mk' {f : FuncId} {fn : Func} (h : P.funcs[f]? = some fn) (h1 : (fn.name == "runtime.NumGoroutine") = false) (h2 : fn.body.isNone = false) : FnOk P f := ⟨fn, h, h1, h2⟩

theorem run_callFunc_enter {f : FuncId} (h : FnOk P f) (args : Array Value) (w : World) : (callFunc f args).run P w = .ok (.enter f args) w := by
  obtain ⟨fn, hf, hn, hb⟩ := h
  have h1 : fn.name ≠ "runtime.NumGoroutine" := by simpa using hn
  cases hbody : fn.body with
  | none => simp [hbody] at hb
  | some c => simp [callFunc, hf, h1, hbody]

theorem run_call {f : FuncId} (hf : FnOk P f) {xs : Array Operand} {tys : Array TypeId} {args : List Value} {a : Act} (ha : Has N σ a) (hx : evs σ xs.toList = some args) (w : World) :
    (execOp a.eval ⟨d, .call ⟨.value (.func f), xs, tys⟩, ty, p, af, none⟩).run P w = .ok (.enter f args.toArray) w := by
  have h1 : xs.map a.eval = args.toArray := by rw [← ha.evals hx, ← Array.toList_map, Array.toArray_toList]
  simp [execOp, resolve, Act.eval, Deferred.ofValue, invoke, h1, run_callFunc_enter hf]

theorem quiet_call {f : FuncId} (hf : FnOk P f) {xs : Array Operand} {tys : Array TypeId} {args : List Value} {a : Act} (ha : Has N σ a) (hx : evs σ xs.toList = some args) {w : World} (spec : Calls P f args.toArray w fun e w' => e = .returned v ∧ WS w [] [] w') :
    Oper.quietUpon P (fun w' => WS w [] [] w') w v ((execOp a.eval ⟨d, .call ⟨.value (.func f), xs, tys⟩, ty, p, af, none⟩).run P w) := by
  rw [run_call hf ha hx w]
  exact ⟨rfl, spec⟩

/-- A call that only makes memory of its own, and whose value is known. -/
theorem J.call0 {f : FuncId} (hk : nog k) (hf : FnOk P f) {xs : Array Operand} {tys : Array TypeId} {args : List Value} (hx : evs σ xs.toList = some args) (hd : okd N d)
    (spec : ∀ w, WS w0 M l w → Calls P f args.toArray w fun e w' => e = .returned v ∧ WS w [] [] w') (hJ : J P ops F w0 M N lS L (putd d v σ) l) :
    J P ops F w0 M N lS ((⟨d, .call ⟨.value (.func f), xs, tys⟩, ty, p, af, none⟩, k) :: L) σ l := fun hlS a ha => stepW.yes rfl (by
  have h2 := hJ hlS _ (ha.putd hd v)
  cases k with
  | q => exact ⟨v, fun w hw => quiet_call hf ha hx (spec w hw), h2⟩
  | l => exact fun w hw => (by
      show loudUpon P _ ((execOp a.eval ⟨d, .call ⟨.value (.func f), xs, tys⟩, ty, p, af, none⟩).run P w)
      rw [run_call hf ha hx w]
      exact (spec w hw).mono fun e w' ⟨he, h2'⟩ => ⟨v, he, l, hw.join0 h2', hlS, h2⟩)
  | _ => exact hk.elim)
/-- Likewise, out of the stable entries alone. -/
theorem J.call0s {f : FuncId} (hf : FnOk P f) {xs : Array Operand} {tys : Array TypeId} {args : List Value} (hx : evs σ xs.toList = some args) (hd : okd N d)
    (spec : ∀ w, WS w0 M lS w → Calls P f args.toArray w fun e w' => e = .returned v ∧ WS w [] [] w') (hJ : J P ops F w0 M N lS L (putd d v σ) l) :
    J P ops F w0 M N lS ((⟨d, .call ⟨.value (.func f), xs, tys⟩, ty, p, af, none⟩, .c) :: L) σ l := fun hlS a ha =>
  stepW.yes rfl ⟨v, fun w hw => quiet_call hf ha hx (spec w hw), hJ hlS _ (ha.putd hd v)⟩

/-- Any call. -/
theorem J.call {f : FuncId} (hf : FnOk P f) {xs : Array Operand} {tys : Array TypeId} {args : List Value} (hx : evs σ xs.toList = some args) (hd : okd N d) {ι : Type} (φ : ι → Prop) (vf : ι → Value) (M' : List Nat) (lf : ι → List (Nat × Ent))
    (spec : ∀ w, WS w0 M l w → Calls P f args.toArray w fun e w' => ∃ i, φ i ∧ e = .returned (vf i) ∧ WS w M' (lf i) w')
    (hM : ∀ i, φ i → ∀ g ∈ M', ∃ k e e2, lk l k = some e ∧ e.id = some g ∧ lk (lf i) k = some e2)
    (hh : ∀ i k e, lk (lf i) k = some e → lk lS k = none)
    (hJ : ∀ i, φ i → J P ops F w0 M N lS L (putd d (vf i) σ) (lf i ++ l)) :
    J P ops F w0 M N lS ((⟨d, .call ⟨.value (.func f), xs, tys⟩, ty, p, af, none⟩, .l) :: L) σ l :=
  J.loud rfl hd φ vf (fun i => lf i ++ l) (fun i _ hs => hs.freshs (hh i)) (fun a ha w hw => by
    rw [run_call hf ha hx w]
    exact (spec w hw).mono fun e w' ⟨i, hi, he, h2⟩ => ⟨vf i, he, i, hi, rfl, hw.join h2 (hM i hi)⟩) hJ

/-- A function of the library that the model does by itself. -/
theorem J.extern {f : FuncId} {fn : Func} {e : Array Value → Sem Value} (hf : P.funcs[f]? = some fn) (hname : (fn.name == "runtime.NumGoroutine") = false) (hb : fn.body.isNone = true) (hn : Extern.findNext fn = none) (he : Extern.find fn = some e)
    {xs : Array Operand} {tys : Array TypeId} {args : List Value} (hx : evs σ xs.toList = some args) (hd : okd N d) (hr : ∀ w, (e args.toArray).run P w = .ok v w) (hJ : J P ops F w0 M N lS L (putd d v σ) l) :
    J P ops F w0 M N lS ((⟨d, .call ⟨.value (.func f), xs, tys⟩, ty, p, af, none⟩, k) :: L) σ l :=
  J.pure rfl hd v (fun a ha w => by
    have h1 : xs.map a.eval = args.toArray := by rw [← ha.evals hx, ← Array.toList_map, Array.toArray_toList]
    simp [execOp, resolve, Act.eval, Deferred.ofValue, invoke, h1, run_callFunc_extern hf hname hb hn he, hr w]) hJ

/-! ### Builtins -/
theorem run_builtin {bi : Builtin} {xs : Array Operand} {tys : Array TypeId} {args : List Value} {a : Act} (ha : Has N σ a) (hx : evs σ xs.toList = some args) (w : World) :
    (execOp a.eval ⟨d, .call ⟨.builtin bi, xs, tys⟩, ty, p, af, none⟩).run P w = (builtin bi tys ty (xs.map fun | .const _ => true | _ => false) args.toArray).run P w := by
  have h1 : xs.map a.eval = args.toArray := by rw [← ha.evals hx, ← Array.toList_map, Array.toArray_toList]
  simp [execOp, resolve, h1, invoke]
  rfl

theorem J.lenSl {e q cap : Nat} {A : Option Addr} (ht : P.underlying t = some (.slice e)) (hx : ev σ x = some (.slice A q cap)) (hd : okd N d) (hJ : J P ops F w0 M N lS L (putd d (.int .i64 (q : Int)) σ) l) :
    J P ops F w0 M N lS ((⟨d, .call ⟨.builtin .len, #[x], #[t]⟩, ty, p, af, none⟩, k) :: L) σ l :=
  J.pure rfl hd _ (fun a ha w => by
    rw [run_builtin ha (args := [.slice A q cap]) (by simp [evs, hx]) w]
    simp [builtin, Builtin.len_, run_underlying ht, goInt]) hJ
theorem J.lenStr {s : ByteArray} (ht : P.underlying t = some .string) (hx : ev σ x = some (.string s)) (hd : okd N d) (hJ : J P ops F w0 M N lS L (putd d (.int .i64 (s.size : Int)) σ) l) :
    J P ops F w0 M N lS ((⟨d, .call ⟨.builtin .len, #[x], #[t]⟩, ty, p, af, none⟩, k) :: L) σ l :=
  J.pure rfl hd _ (fun a ha w => by
    rw [run_builtin ha (args := [.string s]) (by simp [evs, hx]) w]
    simp [builtin, Builtin.len_, run_underlying ht, goInt]) hJ
theorem J.max2 (hx : ev σ x = some (.int kd n)) (hy : ev σ y = some (.int kd m)) {tys : Array TypeId} (hd : okd N d) (hz : (if m > n then m else n) = r) (hJ : J P ops F w0 M N lS L (putd d (.int kd r) σ) l) :
    J P ops F w0 M N lS ((⟨d, .call ⟨.builtin .max, #[x, y], tys⟩, ty, p, af, none⟩, k) :: L) σ l :=
  J.pure rfl hd _ (fun a ha w => by
    rw [run_builtin ha (args := [.int kd n, .int kd m]) (by simp [evs, hx, hy]) w]
    subst hz
    simp [builtin, Builtin.max_, Builtin.max2]) hJ
theorem J.min2 (hx : ev σ x = some (.int kd n)) (hy : ev σ y = some (.int kd m)) {tys : Array TypeId} (hd : okd N d) (hz : (if m < n then m else n) = r) (hJ : J P ops F w0 M N lS L (putd d (.int kd r) σ) l) :
    J P ops F w0 M N lS ((⟨d, .call ⟨.builtin .min, #[x, y], tys⟩, ty, p, af, none⟩, k) :: L) σ l :=
  J.pure rfl hd _ (fun a ha w => by
    rw [run_builtin ha (args := [.int kd n, .int kd m]) (by simp [evs, hx, hy]) w]
    subst hz
    simp [builtin, Builtin.min_, Builtin.min2]) hJ
end Go.Fw
