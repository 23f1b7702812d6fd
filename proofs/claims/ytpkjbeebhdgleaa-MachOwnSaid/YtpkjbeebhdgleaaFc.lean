/-
  One rule for each kind of operation, over a frame and a heap known in part: values, arithmetic, variables in memory, addresses, calls.
  No condition: plain lemmas.
-/
import Derived.Test.YtpkjbeebhdgleaaFb
import Derived.Laws.StructEq
set_option linter.unusedVariables false
namespace Go.Fw
open Go
variable {P : Program} {ops : Array Oper} {F : Act → World → Prop} {w0 : World} {M : List Nat} {N : Nf} {L : List (Oper × K)} {σ : List (Nat × Value)} {l lS : List (Nat × Ent)} {k : K}
  {d : Option Tmp} {ty : TypeId} {p : String} {af : Array Edge} {v v1 v2 z : Value} {x y c : Operand} {t : TypeId} {kd : IntKind} {n m r : Int} {b : Bool}

/-! ### Values -/
theorem J.move (hx : ev σ x = some v) (hd : okd N d) (h : J P ops F w0 M N lS L (putd d v σ) l) : J P ops F w0 M N lS ((⟨d, .move x, ty, p, af, none⟩, k) :: L) σ l :=
  J.pure rfl hd v (fun a ha w => by simp [execOp, ha.eval hx]) h
theorem J.assign (hx : ev σ x = some v) (hd : okd N d) (h : J P ops F w0 M N lS L (putd d v σ) l) : J P ops F w0 M N lS ((⟨d, .assign x, ty, p, af, none⟩, k) :: L) σ l :=
  J.pure rfl hd v (fun a ha w => by simp [execOp, ha.eval hx]) h
theorem J.pick_t (hc : ev σ c = some (.bool true)) (hx : ev σ x = some v) (hd : okd N d) (h : J P ops F w0 M N lS L (putd d v σ) l) : J P ops F w0 M N lS ((⟨d, .pick c x y, ty, p, af, none⟩, k) :: L) σ l :=
  J.pure rfl hd v (fun a ha w => by simp [execOp, ha.eval hc, ha.eval hx, asBool]) h
theorem J.pick_f (hc : ev σ c = some (.bool false)) (hy : ev σ y = some v) (hd : okd N d) (h : J P ops F w0 M N lS L (putd d v σ) l) : J P ops F w0 M N lS ((⟨d, .pick c x y, ty, p, af, none⟩, k) :: L) σ l :=
  J.pure rfl hd v (fun a ha w => by simp [execOp, ha.eval hc, ha.eval hy, asBool]) h

theorem J.add {t' : TypeId} (hx : ev σ x = some (.int kd n)) (hy : ev σ y = some (.int kd m)) (hd : okd N d) (hz : kd.wrap (n + m) = r) (h : J P ops F w0 M N lS L (putd d (.int kd r) σ) l) : J P ops F w0 M N lS ((⟨d, .binOp .add t x y t', ty, p, af, none⟩, k) :: L) σ l :=
  J.pure rfl hd _ (fun a ha w => by subst hz; simp [execOp, ha.eval hx, ha.eval hy, eqGuard_add, binOp_add, Op.intArith]) h
theorem J.sub' {t' : TypeId} (hx : ev σ x = some (.int kd n)) (hy : ev σ y = some (.int kd m)) (hd : okd N d) (hz : kd.wrap (n - m) = r) (h : J P ops F w0 M N lS L (putd d (.int kd r) σ) l) : J P ops F w0 M N lS ((⟨d, .binOp .sub t x y t', ty, p, af, none⟩, k) :: L) σ l :=
  J.pure rfl hd _ (fun a ha w => by subst hz; simp [execOp, ha.eval hx, ha.eval hy, eqGuard_sub, binOp_sub, Op.intArith]) h
theorem J.mul {t' : TypeId} (hx : ev σ x = some (.int kd n)) (hy : ev σ y = some (.int kd m)) (hd : okd N d) (hz : kd.wrap (n * m) = r) (h : J P ops F w0 M N lS L (putd d (.int kd r) σ) l) : J P ops F w0 M N lS ((⟨d, .binOp .mul t x y t', ty, p, af, none⟩, k) :: L) σ l :=
  J.pure rfl hd _ (fun a ha w => by subst hz; simp [execOp, ha.eval hx, ha.eval hy, eqGuard_mul, binOp_mul, Op.intArith]) h
theorem J.quo {t' : TypeId} (hx : ev σ x = some (.int kd n)) (hy : ev σ y = some (.int kd m)) (hd : okd N d) (hm : m ≠ 0) (hz : kd.wrap (n.tdiv m) = r) (h : J P ops F w0 M N lS L (putd d (.int kd r) σ) l) : J P ops F w0 M N lS ((⟨d, .binOp .quo t x y t', ty, p, af, none⟩, k) :: L) σ l :=
  J.pure rfl hd _ (fun a ha w => by subst hz; simp [execOp, ha.eval hx, ha.eval hy, eqGuard_quo, binOp_quo, Op.intDiv, hm]) h
theorem J.rem {t' : TypeId} (hx : ev σ x = some (.int kd n)) (hy : ev σ y = some (.int kd m)) (hd : okd N d) (hm : m ≠ 0) (hz : n.tmod m = r) (h : J P ops F w0 M N lS L (putd d (.int kd r) σ) l) : J P ops F w0 M N lS ((⟨d, .binOp .rem t x y t', ty, p, af, none⟩, k) :: L) σ l :=
  J.pure rfl hd _ (fun a ha w => by subst hz; simp [execOp, ha.eval hx, ha.eval hy, eqGuard_rem, binOp_rem, Op.intDiv, hm]) h
theorem J.band {t' : TypeId} (hx : ev σ x = some (.int kd n)) (hy : ev σ y = some (.int kd m)) (hd : okd N d) (hz : bits .and kd n m = r) (h : J P ops F w0 M N lS L (putd d (.int kd r) σ) l) : J P ops F w0 M N lS ((⟨d, .binOp .and t x y t', ty, p, af, none⟩, k) :: L) σ l :=
  J.pure rfl hd _ (fun a ha w => by subst hz; simp [execOp, ha.eval hx, ha.eval hy, eqGuard_and, binOp_and, intBits_and]) h
theorem J.bor {t' : TypeId} (hx : ev σ x = some (.int kd n)) (hy : ev σ y = some (.int kd m)) (hd : okd N d) (hz : bits .or kd n m = r) (h : J P ops F w0 M N lS L (putd d (.int kd r) σ) l) : J P ops F w0 M N lS ((⟨d, .binOp .or t x y t', ty, p, af, none⟩, k) :: L) σ l :=
  J.pure rfl hd _ (fun a ha w => by subst hz; simp [execOp, ha.eval hx, ha.eval hy, eqGuard_or, binOp_or, intBits_or]) h
theorem J.bxor {t' : TypeId} (hx : ev σ x = some (.int kd n)) (hy : ev σ y = some (.int kd m)) (hd : okd N d) (hz : bits .xor kd n m = r) (h : J P ops F w0 M N lS L (putd d (.int kd r) σ) l) : J P ops F w0 M N lS ((⟨d, .binOp .xor t x y t', ty, p, af, none⟩, k) :: L) σ l :=
  J.pure rfl hd _ (fun a ha w => by subst hz; simp [execOp, ha.eval hx, ha.eval hy, eqGuard_xor, binOp_xor, intBits_xor]) h
theorem J.bandnot {t' : TypeId} (hx : ev σ x = some (.int kd n)) (hy : ev σ y = some (.int kd m)) (hd : okd N d) (hz : bits .andNot kd n m = r) (h : J P ops F w0 M N lS L (putd d (.int kd r) σ) l) : J P ops F w0 M N lS ((⟨d, .binOp .andNot t x y t', ty, p, af, none⟩, k) :: L) σ l :=
  J.pure rfl hd _ (fun a ha w => by subst hz; simp [execOp, ha.eval hx, ha.eval hy, eqGuard_andNot, binOp_andNot, intBits_andNot]) h
theorem J.shl {t' : TypeId} {yk : IntKind} (hx : ev σ x = some (.int kd n)) (hy : ev σ y = some (.int yk m)) (hd : okd N d) (hm : 0 ≤ m) (hz : kd.wrap (n * 2 ^ min m.toNat kd.bits) = r) (h : J P ops F w0 M N lS L (putd d (.int kd r) σ) l) : J P ops F w0 M N lS ((⟨d, .binOp .shl t x y t', ty, p, af, none⟩, k) :: L) σ l :=
  J.pure rfl hd _ (fun a ha w => by subst hz; simp [execOp, ha.eval hx, ha.eval hy, eqGuard_shl, binOp_shl, Op.shift, Int.not_lt.2 hm]) h
theorem J.shr {t' : TypeId} {yk : IntKind} (hx : ev σ x = some (.int kd n)) (hy : ev σ y = some (.int yk m)) (hd : okd N d) (hm : 0 ≤ m) (hz : n.fdiv (2 ^ min m.toNat kd.bits) = r) (h : J P ops F w0 M N lS L (putd d (.int kd r) σ) l) : J P ops F w0 M N lS ((⟨d, .binOp .shr t x y t', ty, p, af, none⟩, k) :: L) σ l :=
  J.pure rfl hd _ (fun a ha w => by subst hz; simp [execOp, ha.eval hx, ha.eval hy, eqGuard_shr, binOp_shr, Op.shift, Int.not_lt.2 hm]) h
theorem J.lss {t' : TypeId} (hx : ev σ x = some (.int kd n)) (hy : ev σ y = some (.int kd m)) (hd : okd N d) (hz : decide (n < m) = b) (h : J P ops F w0 M N lS L (putd d (.bool b) σ) l) : J P ops F w0 M N lS ((⟨d, .binOp .lss t x y t', ty, p, af, none⟩, k) :: L) σ l :=
  J.pure rfl hd _ (fun a ha w => by subst hz; simp [execOp, ha.eval hx, ha.eval hy, eqGuard_lss, binOp_lss]) h
theorem J.leq {t' : TypeId} (hx : ev σ x = some (.int kd n)) (hy : ev σ y = some (.int kd m)) (hd : okd N d) (hz : decide (n ≤ m) = b) (h : J P ops F w0 M N lS L (putd d (.bool b) σ) l) : J P ops F w0 M N lS ((⟨d, .binOp .leq t x y t', ty, p, af, none⟩, k) :: L) σ l :=
  J.pure rfl hd _ (fun a ha w => by subst hz; simp [execOp, ha.eval hx, ha.eval hy, eqGuard_leq, binOp_leq]) h
theorem J.gtr {t' : TypeId} (hx : ev σ x = some (.int kd n)) (hy : ev σ y = some (.int kd m)) (hd : okd N d) (hz : decide (m < n) = b) (h : J P ops F w0 M N lS L (putd d (.bool b) σ) l) : J P ops F w0 M N lS ((⟨d, .binOp .gtr t x y t', ty, p, af, none⟩, k) :: L) σ l :=
  J.pure rfl hd _ (fun a ha w => by subst hz; simp [execOp, ha.eval hx, ha.eval hy, eqGuard_gtr, binOp_gtr]) h
theorem J.geq {t' : TypeId} (hx : ev σ x = some (.int kd n)) (hy : ev σ y = some (.int kd m)) (hd : okd N d) (hz : decide (m ≤ n) = b) (h : J P ops F w0 M N lS L (putd d (.bool b) σ) l) : J P ops F w0 M N lS ((⟨d, .binOp .geq t x y t', ty, p, af, none⟩, k) :: L) σ l :=
  J.pure rfl hd _ (fun a ha w => by subst hz; simp [execOp, ha.eval hx, ha.eval hy, eqGuard_geq, binOp_geq]) h
theorem J.eql {t' : TypeId} (hx : ev σ x = some (.int kd n)) (hy : ev σ y = some (.int kd m)) (hd : okd N d) (hz : decide (n = m) = b) (h : J P ops F w0 M N lS L (putd d (.bool b) σ) l) : J P ops F w0 M N lS ((⟨d, .binOp .eql t x y t', ty, p, af, none⟩, k) :: L) σ l :=
  J.pure rfl hd _ (fun a ha w => by subst hz; simp [execOp, ha.eval hx, ha.eval hy, eqGuard_at_int, binOp_eql]; rfl) h
theorem J.neq {t' : TypeId} (hx : ev σ x = some (.int kd n)) (hy : ev σ y = some (.int kd m)) (hd : okd N d) (hz : decide (n ≠ m) = b) (h : J P ops F w0 M N lS L (putd d (.bool b) σ) l) : J P ops F w0 M N lS ((⟨d, .binOp .neq t x y t', ty, p, af, none⟩, k) :: L) σ l :=
  J.pure rfl hd _ (fun a ha w => by
    subst hz
    simp only [execOp, ha.eval hx, ha.eval hy, eqGuard_at_int, binOp_neq, Sem.run_bind, Sem.run_pure, Result.andThen]
    have : (n != m) = decide (n ≠ m) := by by_cases h : n = m <;> simp [h]
    rw [this]) h
/-- Comparing what is no pair of integers: the run of '==' is the caller's to show. -/
theorem J.eqlR {op : BinOp} {t' : TypeId} (hx : ev σ x = some v1) (hy : ev σ y = some v2) (hd : okd N d) (hz : ∀ w, (do eqGuard op t x y v1 v2; binOp op t v1 v2 : Sem Value).run P w = .ok z w) (h : J P ops F w0 M N lS L (putd d z σ) l) :
    J P ops F w0 M N lS ((⟨d, .binOp op t x y t', ty, p, af, none⟩, k) :: L) σ l :=
  J.pure rfl hd _ (fun a ha w => by
    have := hz w
    simp only [execOp, ha.eval hx, ha.eval hy, Sem.run_bind] at this ⊢
    rw [this]; rfl) h
theorem J.not {b' : Bool} (hx : ev σ x = some (.bool b')) (hd : okd N d) (hz : (!b') = b) (h : J P ops F w0 M N lS L (putd d (.bool b) σ) l) : J P ops F w0 M N lS ((⟨d, .unOp .not t x, ty, p, af, none⟩, k) :: L) σ l :=
  J.pure rfl hd _ (fun a ha w => by subst hz; simp [execOp, ha.eval hx, Op.unary]) h
theorem J.neg (hx : ev σ x = some (.int kd n)) (hd : okd N d) (hz : kd.wrap (0 - n) = r) (h : J P ops F w0 M N lS L (putd d (.int kd r) σ) l) : J P ops F w0 M N lS ((⟨d, .unOp .neg t x, ty, p, af, none⟩, k) :: L) σ l :=
  J.pure rfl hd _ (fun a ha w => by subst hz; simp [execOp, ha.eval hx, Op.unary, Op.intArith]) h
theorem J.compl (hx : ev σ x = some (.int kd n)) (hd : okd N d) (hz : bits .xor kd (if kd.signed then -1 else kd.max) n = r) (h : J P ops F w0 M N lS L (putd d (.int kd r) σ) l) : J P ops F w0 M N lS ((⟨d, .unOp .xor t x, ty, p, af, none⟩, k) :: L) σ l :=
  J.pure rfl hd _ (fun a ha w => by subst hz; simp [execOp, ha.eval hx, Op.unary, intBits_xor]) h
theorem J.conv {src dst : TypeId} {ks : IntKind} (hs : (P.underlying src).isSome = true) (ht : P.underlying dst = some (.int kd)) (hx : ev σ x = some (.int ks n)) (hd : okd N d) (hz : kd.wrap n = r) (h : J P ops F w0 M N lS L (putd d (.int kd r) σ) l) :
    J P ops F w0 M N lS ((⟨d, .convert src dst x, ty, p, af, none⟩, k) :: L) σ l :=
  J.pure rfl hd _ (fun a ha w => by
    subst hz
    cases hu : P.underlying src with
    | none => simp [hu] at hs
    | some ud => cases ud <;> simp [execOp, ha.eval hx, convert, run_underlying hu, run_underlying ht, Conv.intToInt]) h
theorem J.extract {i : Nat} {vs : List Value} (hx : ev σ x = some (.tuple vs.toArray)) (hi : vs[i]? = some v) (hd : okd N d) (h : J P ops F w0 M N lS L (putd d v σ) l) : J P ops F w0 M N lS ((⟨d, .extract x i, ty, p, af, none⟩, k) :: L) σ l :=
  J.pure rfl hd v (fun a ha w => by simp [execOp, ha.eval hx, Instr.extract, hi]) h
theorem J.nilCheck {ad : Addr} (hx : ev σ x = some (.pointer (some ad))) (hd : okd N d) (h : J P ops F w0 M N lS L (putd d (.pointer (some ad)) σ) l) : J P ops F w0 M N lS ((⟨d, .nilCheck x, ty, p, af, none⟩, k) :: L) σ l :=
  J.pure rfl hd _ (fun a ha w => by simp [execOp, ha.eval hx]) h
theorem J.makeFunc {fn : Fn} {fs cs : Array Operand} {vf vc : List Value} (hf : evs σ fs.toList = some vf) (hc : evs σ cs.toList = some vc) (hd : okd N d) (h : J P ops F w0 M N lS L (putd d (.func fn vf.toArray vc.toArray) σ) l) :
    J P ops F w0 M N lS ((⟨d, .makeFunc fn fs cs, ty, p, af, none⟩, k) :: L) σ l :=
  J.pure rfl hd _ (fun a ha w => by
    have h1 : fs.map a.eval = vf.toArray := by rw [← ha.evals hf, ← Array.toList_map, Array.toArray_toList]
    have h2 : cs.map a.eval = vc.toArray := by rw [← ha.evals hc, ← Array.toList_map, Array.toArray_toList]
    simp [execOp, Instr.makeFunc, h1, h2]) h

/-! ### Variables in memory -/
def ZeroT (P : Program) (t : TypeId) (z : Value) : Prop := (P.info? t).map (·.zero) = some (some z)
theorem run_zeroValue (h : ZeroT P t z) (w : World) : (zeroValue t).run P w = .ok z w := by
  unfold ZeroT at h
  cases hi : P.info? t with
  | none => simp [hi] at h
  | some i => simp [hi] at h; simp [zeroValue, typeInfo, hi, h]

theorem J.new {op : Op} (hd : okd N d) (h : Nat) (hh : lk lS h = none) (cs : List Value) (hr : ∀ a, Has N σ a → ∀ w, (execOp a.eval ⟨d, op, ty, p, af, none⟩).run P w = .ok (.value (.pointer (some ⟨w.heap.size, 0, none⟩))) (w.alloc (.cells cs.toArray t)))
    (hJ : ∀ g, w0.heap.size ≤ g → J P ops F w0 M N lS L (putd d (.pointer (some ⟨g, 0, none⟩)) σ) ((h, ⟨some g, t, cs⟩) :: l)) : J P ops F w0 M N lS ((⟨d, op, ty, p, af, none⟩, .l) :: L) σ l :=
  J.loud rfl hd (ι := Nat) (fun g => w0.heap.size ≤ g) (fun g => .pointer (some ⟨g, 0, none⟩)) (fun g => (h, ⟨some g, t, cs⟩) :: l) (fun _ _ hs => hs.fresh hh)
    (fun a ha w hw => by rw [hr a ha w]; exact ⟨_, hw.size, rfl, hw.alloc h cs t⟩) hJ
theorem J.alloc (h : Nat) (hh : lk lS h = none) (hz : ZeroT P t z) (cs : List Value) (hc : z.cells = cs.toArray) (hd : okd N d)
    (hJ : ∀ g, w0.heap.size ≤ g → J P ops F w0 M N lS L (putd d (.pointer (some ⟨g, 0, none⟩)) σ) ((h, ⟨some g, t, cs⟩) :: l)) : J P ops F w0 M N lS ((⟨d, .alloc t, ty, p, af, none⟩, .l) :: L) σ l :=
  J.new hd h hh cs (fun a ha w => by
    simp only [execOp, Instr.alloc, Sem.run_bind, run_zeroValue hz, Result.andThen, newVar, newRow, run_newObj, hc]
    rfl) hJ
theorem J.allocA (h : Nat) (hh : lk lS h = none) (hl : lk l h = none) (hz : ZeroT P t z) (cs : List Value) (hc : z.cells = cs.toArray) (hd : okd N d)
    (hJ : ∀ g, w0.heap.size ≤ g → J P ops F w0 M N lS L (putd d (.pointer (some ⟨g, 0, none⟩)) σ) ((h, ⟨some g, t, cs⟩) :: l)) : J P ops F w0 M N lS ((⟨d, .alloc t, ty, p, af, none⟩, .a h) :: L) σ l :=
  J.newA h hd hh hl cs (fun a ha w => by
    simp only [execOp, Instr.alloc, Sem.run_bind, run_zeroValue hz, Result.andThen, newVar, newRow, run_newObj, hc]
    rfl) hJ
theorem J.box (h : Nat) (hh : lk lS h = none) (hx : ev σ x = some v) (cs : List Value) (hc : v.cells = cs.toArray) (hd : okd N d)
    (hJ : ∀ g, w0.heap.size ≤ g → J P ops F w0 M N lS L (putd d (.pointer (some ⟨g, 0, none⟩)) σ) ((h, ⟨some g, t, cs⟩) :: l)) : J P ops F w0 M N lS ((⟨d, .box t x, ty, p, af, none⟩, .l) :: L) σ l :=
  J.new hd h hh cs (fun a ha w => by
    simp only [execOp, Instr.box, ha.eval hx, Sem.run_bind, newVar, newRow, run_newObj, hc, Result.andThen]
    rfl) hJ

theorem J.load1 (hk : nog k) (h : Nat) {e : Ent} {o : Nat} (he : lk l h = some e) (hx : ev σ x = some (.pointer (some ⟨e.id.getD 0, o, none⟩))) (ht : OneT P t) (hv : e.cs[o]? = some v) (hd : okd N d)
    (hJ : J P ops F w0 M N lS L (putd d v σ) l) : J P ops F w0 M N lS ((⟨d, .load t x, ty, p, af, none⟩, k) :: L) σ l :=
  J.quiet rfl hk hd v (fun a ha w hw => by
    simp [execOp, ha.eval hx, Instr.loadAt, Instr.sureAddr, run_loadVar_one ht _ _ (hw.cell he hv)]) hJ

theorem seg_get {cs vs : List Value} {o n : Nat} (hc : (cs.drop o).take n = vs) {j : Nat} {u : Value} (hj : vs[j]? = some u) : cs[o + j]? = some u := by
  rw [← hc] at hj
  rcases Nat.lt_or_ge j n with h | h
  · rw [List.getElem?_take_of_lt h, List.getElem?_drop] at hj; exact hj
  · rw [List.getElem?_eq_none (by simp; omega)] at hj; cases hj

theorem J.loadN (hk : nog k) (h : Nat) {e : Ent} {o n : Nat} (he : lk l h = some e) (hx : ev σ x = some (.pointer (some ⟨e.id.getD 0, o, none⟩))) (ht : AggT P t n) (vs : List Value) (hn : vs.length = n) (hv : (e.cs.drop o).take n = vs) (hd : okd N d)
    (hJ : J P ops F w0 M N lS L (putd d (.agg vs.toArray) σ) l) : J P ops F w0 M N lS ((⟨d, .load t x, ty, p, af, none⟩, k) :: L) σ l :=
  J.quiet rfl hk hd _ (fun a ha w hw => by
    have hl := run_loadVar_agg (P := P) (w := w) ht ⟨e.id.getD 0, o, none⟩ vs hn (fun j u hj => by
      rw [show (⟨e.id.getD 0, o, none⟩ : Addr).add j = ⟨e.id.getD 0, o + j, none⟩ by unfold Addr.add; split <;> simp_all]
      exact hw.cell he (seg_get hv hj))
    simp [execOp, ha.eval hx, Instr.loadAt, Instr.sureAddr, hl]) hJ

theorem J.load1s (h : Nat) {e : Ent} {o : Nat} (he : lk lS h = some e) (hx : ev σ x = some (.pointer (some ⟨e.id.getD 0, o, none⟩))) (ht : OneT P t) (hv : e.cs[o]? = some v) (hd : okd N d)
    (hJ : J P ops F w0 M N lS L (putd d v σ) l) : J P ops F w0 M N lS ((⟨d, .load t x, ty, p, af, none⟩, .s) :: L) σ l :=
  J.stable rfl hd v (fun a ha w hw => by
    simp [execOp, ha.eval hx, Instr.loadAt, Instr.sureAddr, run_loadVar_one ht _ _ (hw.cell he hv)]) hJ
theorem J.loadNs (h : Nat) {e : Ent} {o n : Nat} (he : lk lS h = some e) (hx : ev σ x = some (.pointer (some ⟨e.id.getD 0, o, none⟩))) (ht : AggT P t n) (vs : List Value) (hn : vs.length = n) (hv : (e.cs.drop o).take n = vs) (hd : okd N d)
    (hJ : J P ops F w0 M N lS L (putd d (.agg vs.toArray) σ) l) : J P ops F w0 M N lS ((⟨d, .load t x, ty, p, af, none⟩, .s) :: L) σ l :=
  J.stable rfl hd _ (fun a ha w hw => by
    have hl := run_loadVar_agg (P := P) (w := w) ht ⟨e.id.getD 0, o, none⟩ vs hn (fun j u hj => by
      rw [show (⟨e.id.getD 0, o, none⟩ : Addr).add j = ⟨e.id.getD 0, o + j, none⟩ by unfold Addr.add; split <;> simp_all]
      exact hw.cell he (seg_get hv hj))
    simp [execOp, ha.eval hx, Instr.loadAt, Instr.sureAddr, hl]) hJ

/-- A load out of what lay there when the call began. -/
theorem J.loadI1 (hk : nog k) {A : Option Addr} {cs : List Value} {i : Nat} (hc : Cs w0 A cs) (ho : Off M A) (hx : ev σ x = some (.pointer (some ((A.getD default).add i)))) (ht : OneT P t) (hv : cs[i]? = some v) (hd : okd N d)
    (hJ : J P ops F w0 M N lS L (putd d v σ) l) : J P ops F w0 M N lS ((⟨d, .load t x, ty, p, af, none⟩, k) :: L) σ l :=
  J.quiet rfl hk hd v (fun a ha w hw => by
    obtain ⟨ad, hA, hcell⟩ := (hc.ws hw ho) i v hv
    subst hA
    simp only [Option.getD_some] at hx
    simp [execOp, ha.eval hx, Instr.loadAt, Instr.sureAddr, run_loadVar_one ht _ _ hcell]) hJ

theorem J.loadIN (hk : nog k) {A : Option Addr} {cs : List Value} {i n : Nat} (hc : Cs w0 A cs) (ho : Off M A) (hx : ev σ x = some (.pointer (some ((A.getD default).add i)))) (ht : AggT P t n) (vs : List Value) (hn : vs.length = n) (hv : (cs.drop i).take n = vs) (hd : okd N d)
    (hJ : J P ops F w0 M N lS L (putd d (.agg vs.toArray) σ) l) : J P ops F w0 M N lS ((⟨d, .load t x, ty, p, af, none⟩, k) :: L) σ l :=
  J.quiet rfl hk hd _ (fun a ha w hw => by
    have hl := run_loadVar_agg (P := P) (w := w) ht ((A.getD default).add i) vs hn (fun j u hj => by
      obtain ⟨ad, hA, hcell⟩ := (hc.ws hw ho) (i + j) u (seg_get hv hj)
      subst hA
      rw [Addr.add_add]; exact hcell)
    simp [execOp, ha.eval hx, Instr.loadAt, Instr.sureAddr, hl]) hJ

theorem J.loadI1s {A : Option Addr} {cs : List Value} {i : Nat} (hc : Cs w0 A cs) (ho : Off M A) (hx : ev σ x = some (.pointer (some ((A.getD default).add i)))) (ht : OneT P t) (hv : cs[i]? = some v) (hd : okd N d)
    (hJ : J P ops F w0 M N lS L (putd d v σ) l) : J P ops F w0 M N lS ((⟨d, .load t x, ty, p, af, none⟩, .s) :: L) σ l :=
  J.stable rfl hd v (fun a ha w hw => by
    obtain ⟨ad, hA, hcell⟩ := (hc.ws hw ho) i v hv
    subst hA
    simp only [Option.getD_some] at hx
    simp [execOp, ha.eval hx, Instr.loadAt, Instr.sureAddr, run_loadVar_one ht _ _ hcell]) hJ
theorem J.loadINs {A : Option Addr} {cs : List Value} {i n : Nat} (hc : Cs w0 A cs) (ho : Off M A) (hx : ev σ x = some (.pointer (some ((A.getD default).add i)))) (ht : AggT P t n) (vs : List Value) (hn : vs.length = n) (hv : (cs.drop i).take n = vs) (hd : okd N d)
    (hJ : J P ops F w0 M N lS L (putd d (.agg vs.toArray) σ) l) : J P ops F w0 M N lS ((⟨d, .load t x, ty, p, af, none⟩, .s) :: L) σ l :=
  J.stable rfl hd _ (fun a ha w hw => by
    have hl := run_loadVar_agg (P := P) (w := w) ht ((A.getD default).add i) vs hn (fun j u hj => by
      obtain ⟨ad, hA, hcell⟩ := (hc.ws hw ho) (i + j) u (seg_get hv hj)
      subst hA
      rw [Addr.add_add]; exact hcell)
    simp [execOp, ha.eval hx, Instr.loadAt, Instr.sureAddr, hl]) hJ

/-- The cells from o on, written over. -/
def put (cs : List Value) (o : Nat) (vs : List Value) : List Value := cs.take o ++ vs ++ cs.drop (o + vs.length)
theorem put_one (cs : List Value) (o : Nat) (v : Value) (ho : o < cs.length) : put cs o [v] = cs.set o v := by
  apply List.ext_getElem?
  intro j
  simp only [put, List.getElem?_append, List.length_append, List.length_take, List.length_singleton, List.getElem?_set, Nat.min_eq_left (Nat.le_of_lt ho)]
  by_cases h1 : j < o
  · simp [h1, Nat.ne_of_gt h1, show j < o + 1 by omega]
  · by_cases h2 : j = o
    · subst h2; simp [ho]
    · have h3 : ¬ j < o + 1 := by omega
      simp only [h3, if_false, List.getElem?_drop]
      rw [if_neg (by omega)]
      congr 1; omega

theorem run_store_ent {w : World} {g o : Nat} {e : Ent} (hg : e.id = some g) (hat : e.At w) (vs : List Value) (hfit : o + vs.length ≤ e.cs.length) (h1 : ∀ u ∈ vs, u.oneCell' = true) :
    (storeCells ⟨g, o, none⟩ vs).run P w = .ok () (w.setRow g (put e.cs o vs).toArray) := by
  obtain ⟨t, _, hat'⟩ : ∃ t, e.t = .ty t ∧ w.heap[g]? = some (.cells e.cs.toArray t (0, 0)) := by simpa only [Ent.At, hg] using hat
  have := run_storeCells_at P g o t vs 0 e.cs.toArray w hat' (by simpa using hfit) h1
  simpa [put] using this

/-- A store into an entry. -/
theorem J.store (h : Nat) (hh : lk lS h = none) {e : Ent} {o : Nat} (he : lk l h = some e) (hx : ev σ x = some (.pointer (some ⟨e.id.getD 0, o, none⟩))) (hy : ev σ y = some v) (vs : List Value) (hv : v.cells = vs.toArray) (hs : (P.info? t).map (·.size) = some vs.length)
    (hfit : o + vs.length ≤ e.cs.length) (h1 : ∀ u ∈ vs, u.oneCell' = true) (hne : 0 < vs.length) (hd : okd N d) (cs' : List Value) (hcs : put e.cs o vs = cs')
    (hJ : J P ops F w0 M N lS L (putd d undef σ) ((h, ⟨e.id, e.t, cs'⟩) :: l)) : J P ops F w0 M N lS ((⟨d, .store t x y, ty, p, af, none⟩, .l) :: L) σ l :=
  J.loud rfl hd (ι := Unit) (fun _ => True) (fun _ => undef) (fun _ => (h, ⟨e.id, e.t, cs'⟩) :: l) (fun _ _ hs => hs.fresh hh) (fun a ha w hw => by
    have hat := hw.live h e he
    cases hid : e.id with
    | none =>
      simp only [Ent.At, hid] at hat
      rw [hat.1] at hfit
      simp at hfit
      simp [hfit.2] at hne
    | some g =>
      rw [hid] at hx
      simp only [Option.getD_some] at hx
      have hst := run_store_ent (P := P) hid hat vs hfit h1
      have hsz : vs.length = v.cells.size := by simp [hv]
      have hset := hw.set he hid (put e.cs o vs)
      rw [hcs, hid] at hset
      have hrun : (execOp a.eval ⟨d, .store t x y, ty, p, af, none⟩).run P w = .ok .skip (w.setRow g (put e.cs o vs).toArray) := by
        simp only [execOp, ha.eval hx, ha.eval hy, Instr.storeAt, Instr.sureAddr, storeVar, Sem.run_bind, Sem.run_pure, Result.andThen, run_sizeOf hs, hsz, ne_eq, not_true_eq_false, if_false, hv, hst]
      rw [hrun, hcs]
      exact ⟨(), trivial, rfl, hset⟩) (fun _ _ => hJ)
end Go.Fw
