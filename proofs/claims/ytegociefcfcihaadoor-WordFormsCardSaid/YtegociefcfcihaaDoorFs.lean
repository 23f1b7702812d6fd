/-
  Rules for scopes, arrays out of slices, function values, two rows handed back.
  No condition: plain lemmas.
-/
import Derived.Test.YtegociefcfcihaaDoorFi
import Derived.Test.YtegociefcfcihaaDoorFk
import Derived.Test.YtegociefcfcihaaDoorPf
import Derived.Scope
set_option linter.unusedVariables false
namespace Go.Fw
open Go
variable {P : Program} {ops : Array Oper} {F : Act → World → Prop} {w0 w w' : World} {M : List Nat} {N : Nat} {L : List (Oper × K)} {σ : List (Nat × Value)} {l lS : List (Nat × Ent)} {k : K} {Q : Exit → Act → World → Prop}
  {d : Option Tmp} {ty : TypeId} {p : String} {af : Array Edge} {v v1 v2 z : Value} {x y c : Operand} {t : TypeId} {kd : IntKind} {n m r : Int} {b : Bool}

/-! ### Scopes without jumps -/
theorem T.scope {c : Code} (h : T P w0 M N (Exit.noGoto Q) c σ l) : T P w0 M N Q (.scope c) σ l := fun a w ha hw => wp_scope_straight (h a w ha hw)
theorem X.scope (h : X w0 M N Q .normal σ l) : X w0 M N (Exit.noGoto Q) .normal σ l := h
theorem X.scope_ret (h : X w0 M N Q .ret σ l) : X w0 M N (Exit.noGoto Q) .ret σ l := h
theorem X.scope_exit {id : Nat} (h : X w0 M N Q (.exit id) σ l) : X w0 M N (Exit.noGoto Q) (.exit id) σ l := h

/-! ### An array out of a slice -/
theorem J.toArr {len e q cap : Nat} {A : Option Addr} (ht : P.underlying t = some (.array len e)) (hx : ev σ x = some (.slice A q cap)) (hq : len ≤ q) (hd : okd N d) (h : J P ops F w0 M N lS L (putd d (.pointer A) σ) l) :
    J P ops F w0 M N lS ((⟨d, .sliceToArrayPointer t x, ty, p, af, none⟩, k) :: L) σ l :=
  J.pure rfl hd _ (fun a ha w => by
    have : ¬ q < len := by omega
    simp [execOp, ha.eval hx, Instr.arrayAt, run_underlying ht, this]) h

/-! ### Function values -/
theorem run_callV {f : FuncId} (hf : FnOk P f) {xs : Array Operand} {tys : Array TypeId} {args cap : List Value} {a : Act} (ha : Has N σ a) (hy : ev σ y = some (.func (.func f) #[] cap.toArray)) (hx : evs σ xs.toList = some args) (w : World) :
    (execOp a.eval ⟨d, .call ⟨.value y, xs, tys⟩, ty, p, af, none⟩).run P w = .ok (.enter f (args ++ cap).toArray) w := by
  have h1 : xs.map a.eval = args.toArray := by rw [← ha.evals hx, ← Array.toList_map, Array.toArray_toList]
  simp [execOp, resolve, ha.eval hy, Deferred.ofValue, invoke, h1, run_callFunc_enter hf]
/-- A call of a function value. -/
theorem J.callV {f : FuncId} (hf : FnOk P f) {xs : Array Operand} {tys : Array TypeId} {args cap : List Value} (hy : ev σ y = some (.func (.func f) #[] cap.toArray)) (hx : evs σ xs.toList = some args) (hd : okd N d) {ι : Type} (φ : ι → Prop) (vf : ι → Value) (M' : List Nat) (lf : ι → List (Nat × Ent))
    (spec : ∀ w, WS w0 M l w → Calls P f (args ++ cap).toArray w fun e w' => ∃ i, φ i ∧ e = .returned (vf i) ∧ WS w M' (lf i) w')
    (hM : ∀ i, φ i → ∀ g ∈ M', ∃ k e e2, lk l k = some e ∧ e.id = some g ∧ lk (lf i) k = some e2)
    (hh : ∀ i k e, lk (lf i) k = some e → lk lS k = none)
    (hJ : ∀ i, φ i → J P ops F w0 M N lS L (putd d (vf i) σ) (lf i ++ l)) :
    J P ops F w0 M N lS ((⟨d, .call ⟨.value y, xs, tys⟩, ty, p, af, none⟩, .l) :: L) σ l :=
  J.loud rfl hd φ vf (fun i => lf i ++ l) (fun i _ hs => hs.freshs (hh i)) (fun a ha w hw => by
    rw [run_callV hf ha hy hx w]
    exact (spec w hw).mono fun e w' ⟨i, hi, he, h2⟩ => ⟨vf i, he, i, hi, rfl, hw.join h2 (hM i hi)⟩) hJ
theorem J.callV0 {f : FuncId} (hf : FnOk P f) {xs : Array Operand} {tys : Array TypeId} {args cap : List Value} (hy : ev σ y = some (.func (.func f) #[] cap.toArray)) (hx : evs σ xs.toList = some args) (hd : okd N d)
    (spec : ∀ w, WS w0 M l w → Calls P f (args ++ cap).toArray w fun e w' => e = .returned v ∧ WS w [] [] w') (hJ : J P ops F w0 M N lS L (putd d v σ) l) :
    J P ops F w0 M N lS ((⟨d, .call ⟨.value y, xs, tys⟩, ty, p, af, none⟩, .l) :: L) σ l :=
  J.callV hf hy hx hd (ι := Unit) (fun _ => True) (fun _ => v) [] (fun _ => []) (fun w hw => (spec w hw).mono fun e w' ⟨he, h2⟩ => ⟨(), trivial, he, h2⟩) (fun _ _ g hg => by simp at hg) (fun _ k e he => by simp [lk] at he) (fun _ _ => hJ)
/-- A function that keeps one cell: 'two', 'is'. -/
def ClosPost (w : World) (t : TypeId) (f : FuncId) (fv : Value) (e : Ending) (w' : World) : Prop := ∃ g, w.heap.size ≤ g ∧ e = .returned (.func (.func f) #[] [.pointer (some ⟨g, 0, none⟩)].toArray) ∧ WS w [] [(0, ⟨some g, t, [fv]⟩)] w'
theorem J.callClos (h : Nat) (hh : lk lS h = none) {fv : Value} {f f2 : FuncId} (hf : FnOk P f) {xs : Array Operand} {tys : Array TypeId} {args : List Value} (hy : ev σ y = some (.func (.func f) #[] ([] : List Value).toArray)) (hx : evs σ xs.toList = some args) (hd : okd N d)
    (spec : ∀ w, WS w0 M l w → Calls P f (args ++ []).toArray w (ClosPost w t f2 fv))
    (hJ : ∀ g, w0.heap.size ≤ g → J P ops F w0 M N lS L (putd d (.func (.func f2) #[] [.pointer (some ⟨g, 0, none⟩)].toArray) σ) ((h, ⟨some g, t, [fv]⟩) :: l)) :
    J P ops F w0 M N lS ((⟨d, .call ⟨.value y, xs, tys⟩, ty, p, af, none⟩, .l) :: L) σ l :=
  J.callV hf hy hx hd (ι := Nat) (fun g => w0.heap.size ≤ g) (fun g => .func (.func f2) #[] [.pointer (some ⟨g, 0, none⟩)].toArray) [] (fun g => [(h, ⟨some g, t, [fv]⟩)])
    (fun w hw => (spec w hw).mono fun e w' ⟨g, hg, he, h2⟩ => ⟨g, Nat.le_trans hw.size hg, he, h2.rename h⟩) (fun _ _ g hg => by simp at hg) (fun i k e he => by
      rw [lk_cons] at he
      split at he
      · rename_i hk; subst hk; exact hh
      · simp [lk] at he) (fun i hi => hJ i hi)
/-- A function value that reckons with three words. -/
def FnSpec (P : Program) (w : World) (fv : Value) (S : Nat → Nat → Nat → Nat) : Prop :=
  ∃ (f : FuncId) (cap : List Value), FnOk P f ∧ fv = .func (.func f) #[] cap.toArray ∧ ∀ w', WS w [] [] w' → ∀ a b c, Calls P f ([W a, W b, W c] ++ cap).toArray w' fun e w'' => e = .returned (W (S a b c)) ∧ WS w' [] [] w''
theorem FnSpec.ws {fv : Value} {S : Nat → Nat → Nat → Nat} (h : FnSpec P w0 fv S) (hw : WS w0 [] l w) : FnSpec P w fv S := by
  obtain ⟨f, cap, h1, h2, h3⟩ := h
  refine ⟨f, cap, h1, h2, fun w' hw' => h3 w' ?_⟩
  have := (hw.sub (Sub.nil _)).join hw' (fun g hg => by simp at hg)
  exact this.sub (Sub.nil _)

/-! ### Two rows handed back -/
def Rows2Post (w : World) (t : TypeId) (kd : IntKind) (φ : List Nat → List Nat → Prop) (e : Ending) (w' : World) : Prop :=
  ∃ zs ys : List Nat, φ zs ys ∧ ∃ r s : RowIx, r.Ok 1 zs.length ∧ s.Ok 1 ys.length ∧ e = .returned (.tuple #[r.val zs.length, s.val ys.length]) ∧ WS w [] [(0, r.ent t (rowN kd zs)), (1, s.ent t (rowN kd ys))] w'
theorem J.callRows2 (i j : Nat) (hij : i ≠ j) (hi : lk lS i = none) (hj : lk lS j = none) {f : FuncId} (hf : FnOk P f) {xs : Array Operand} {tys : Array TypeId} {args : List Value} (hx : evs σ xs.toList = some args) (hd : okd N d) {φ : List Nat → List Nat → Prop}
    (spec : ∀ w, WS w0 M l w → Calls P f args.toArray w (Rows2Post w t kd φ))
    (hJ : ∀ (zs ys : List Nat) (r s : RowIx), φ zs ys → r.Ok 1 zs.length → s.Ok 1 ys.length → J P ops F w0 M N lS L (putd d (.tuple [r.val zs.length, s.val ys.length].toArray) σ) ((i, r.ent t (rowN kd zs)) :: (j, s.ent t (rowN kd ys)) :: l)) :
    J P ops F w0 M N lS ((⟨d, .call ⟨.value (.func f), xs, tys⟩, ty, p, af, none⟩, .l) :: L) σ l :=
  J.call hf hx hd (ι := (List Nat × List Nat) × (RowIx × RowIx)) (fun q => φ q.1.1 q.1.2 ∧ q.2.1.Ok 1 q.1.1.length ∧ q.2.2.Ok 1 q.1.2.length) (fun q => .tuple [q.2.1.val q.1.1.length, q.2.2.val q.1.2.length].toArray) [] (fun q => [(i, q.2.1.ent t (rowN kd q.1.1)), (j, q.2.2.ent t (rowN kd q.1.2))])
    (fun w hw => (spec w hw).mono fun e w' ⟨zs, ys, hz, r, s, hr, hs, he, h2⟩ => ⟨((zs, ys), (r, s)), ⟨hz, hr, hs⟩, he, h2.pairOf 0 1 rfl rfl (by omega) i j hij⟩) (fun _ _ g hg => by simp at hg) (fun q k e he => by
      rw [lk_cons, lk_cons] at he
      split at he
      · rename_i hk; subst hk; exact hi
      · split at he
        · rename_i hk; subst hk; exact hj
        · simp [lk] at he) (fun q hq => hJ q.1.1 q.1.2 q.2.1 q.2.2 hq.1 hq.2.1 hq.2.2)

theorem W_small {a : Nat} (h : a < 18446744073709551616) : Value.agg ([.int .u64 (a : Int), .int .u64 0, .int .u64 0, .int .u64 0] : List Value).toArray = W a := by
  have e : wl a = [a, 0, 0, 0] := by
    have e0 : lim a 0 = a := by unfold lim; omega
    have e1 : lim a 1 = 0 := by unfold lim; omega
    have e2 : lim a 2 = 0 := by unfold lim; omega
    have e3 : lim a 3 = 0 := by unfold lim; omega
    unfold wl; rw [e0, e1, e2, e3]
  show _ = Value.agg (rowN .u64 (wl a)).toArray
  rw [e]; rfl

/-! ### Eight parts -/
def lg (V : Nat) : List Nat := [lim V 0, lim V 1, lim V 2, lim V 3, lim V 4, lim V 5, lim V 6, lim V 7]
abbrev lc (V : Nat) : List Value := rowN .u64 (lg V)
theorem lg_length (V : Nat) : (lg V).length = 8 := rfl
theorem lg_get (V i : Nat) (h : i < 8) : (lg V).getD i 0 = lim V i := by
  match i, h with
  | 0, _ => rfl
  | 1, _ => rfl
  | 2, _ => rfl
  | 3, _ => rfl
  | 4, _ => rfl
  | 5, _ => rfl
  | 6, _ => rfl
  | 7, _ => rfl
theorem list8 {ys : List Nat} (h : ys.length = 8) : ys = [ys.getD 0 0, ys.getD 1 0, ys.getD 2 0, ys.getD 3 0, ys.getD 4 0, ys.getD 5 0, ys.getD 6 0, ys.getD 7 0] := by
  match ys, h with
  | [_, _, _, _, _, _, _, _], _ => rfl
theorem lg_of {ps : List Nat} (h : ps.length = 8) (hd : Dq 18446744073709551616 ps) : ps = lg (vq 18446744073709551616 ps) := by
  have g : ∀ i, ps.getD i 0 = lim (vq 18446744073709551616 ps) i := fun i => vq_get (by omega) hd i
  conv => lhs; rw [list8 h]
  rw [g 0, g 1, g 2, g 3, g 4, g 5, g 6, g 7]; rfl
theorem lc_take (V : Nat) : (lc V).take 4 = wc V := rfl
theorem lim_hi {V i j : Nat} (h : V < 18446744073709551616 ^ i) (hj : i ≤ j) : lim V j = 0 := by
  unfold lim
  rw [Nat.div_eq_of_lt (Nat.lt_of_lt_of_le h (Nat.pow_le_pow_right (by omega) hj))]
theorem lg_wide {x c : Nat} (hc : c < 18446744073709551616) : [lim x 0, lim x 1, lim x 2, lim x 3, c, 0, 0, 0] = lg (x % 2 ^ 256 + c * 2 ^ 256) := by
  have e0 : lim (x % 2 ^ 256 + c * 2 ^ 256) 0 = lim x 0 := by unfold lim; omega
  have e1 : lim (x % 2 ^ 256 + c * 2 ^ 256) 1 = lim x 1 := by unfold lim; omega
  have e2 : lim (x % 2 ^ 256 + c * 2 ^ 256) 2 = lim x 2 := by unfold lim; omega
  have e3 : lim (x % 2 ^ 256 + c * 2 ^ 256) 3 = lim x 3 := by unfold lim; omega
  have e4 : lim (x % 2 ^ 256 + c * 2 ^ 256) 4 = c := by unfold lim; omega
  have hlt : x % 2 ^ 256 + c * 2 ^ 256 < 18446744073709551616 ^ 5 := by omega
  unfold lg
  rw [e0, e1, e2, e3, e4, lim_hi hlt (by omega), lim_hi hlt (by omega), lim_hi hlt (by omega)]
theorem lim_small_top {V t : Nat} (h : V < 18446744073709551616 ^ (t + 1)) (hz : lim V t = 0) : V < 18446744073709551616 ^ t := by
  have hp : 0 < 18446744073709551616 ^ t := Nat.pow_pos (by omega)
  have h2 : V / 18446744073709551616 ^ t < 18446744073709551616 := (Nat.div_lt_iff_lt_mul hp).2 (by rw [Nat.mul_comm, ← Nat.pow_succ]; exact h)
  unfold lim at hz
  rw [Nat.mod_eq_of_lt h2] at hz
  rcases Nat.lt_or_ge V (18446744073709551616 ^ t) with h3 | h3
  · exact h3
  · have := (Nat.le_div_iff_mul_le hp).2 (show 1 * 18446744073709551616 ^ t ≤ V by omega)
    omega
theorem lim_bit (V i k : Nat) (hk : k < 64) : lim V i / 2 ^ k % 2 = V / 2 ^ (64 * i + k) % 2 := by
  rw [bit_testBit, bit_testBit, lim_testBit]; simp [hk]

/-! ### 64 bits times 64 bits -/
theorem u64_and_mask (a m j : Nat) (ha : a < 18446744073709551616) (hm : m = 2 ^ j - 1) (hj : j ≤ 63) : bits .and .u64 (a : Int) (m : Int) = ((a % 2 ^ j : Nat) : Int) := by
  have hm2 : m < 18446744073709551616 := by
    have : (2 : Nat) ^ j ≤ 2 ^ 63 := Nat.pow_le_pow_right (by omega) hj
    have : 0 < (2 : Nat) ^ j := Nat.pow_pos (by omega)
    omega
  rw [u64_and_nat a m ha hm2, hm, Nat.and_two_pow_sub_one_eq_mod]
theorem u64_and32 (a : Nat) (ha : a < 18446744073709551616) : bits .and .u64 (a : Int) 4294967295 = ((a % 4294967296 : Nat) : Int) := u64_and_mask a 4294967295 32 ha (by decide) (by omega)
theorem u64_and1 (a : Nat) (ha : a < 18446744073709551616) : bits .and .u64 (a : Int) 1 = ((a % 2 : Nat) : Int) := u64_and_mask a 1 1 ha (by decide) (by omega)
theorem u64_and15 (a : Nat) (ha : a < 18446744073709551616) : bits .and .u64 (a : Int) 15 = ((a % 16 : Nat) : Int) := u64_and_mask a 15 4 ha (by decide) (by omega)
theorem mulw_nat (a b : Nat) : IntKind.u64.wrap ((a : Int) * (b : Int)) = ((a * b % 18446744073709551616 : Nat) : Int) := by rw [← Int.natCast_mul]; exact wrapu_nat _
theorem mul64 (x y : Nat) (hx : x < 18446744073709551616) (hy : y < 18446744073709551616) :
    (x % 4294967296) * (y % 4294967296) ≤ 18446744065119617025 ∧ (x / 4294967296) * (y % 4294967296) ≤ 18446744065119617025 ∧ (x % 4294967296) * (y / 4294967296) ≤ 18446744065119617025 ∧ (x / 4294967296) * (y / 4294967296) ≤ 18446744065119617025 ∧
    (x / 4294967296) * (y / 4294967296) + ((x / 4294967296) * (y % 4294967296) + (x % 4294967296) * (y % 4294967296) / 4294967296) / 4294967296 + (((x / 4294967296) * (y % 4294967296) + (x % 4294967296) * (y % 4294967296) / 4294967296) % 4294967296 + (x % 4294967296) * (y / 4294967296)) / 4294967296 = x * y / 18446744073709551616 ∧
    x * y ≤ 340282366920938463426481119284349108225 := by
  have a1 : x % 4294967296 ≤ 4294967295 := by omega
  have a2 : x / 4294967296 ≤ 4294967295 := by omega
  have b1 : y % 4294967296 ≤ 4294967295 := by omega
  have b2 : y / 4294967296 ≤ 4294967295 := by omega
  have m1 : (x % 4294967296) * (y % 4294967296) ≤ 4294967295 * 4294967295 := Nat.mul_le_mul a1 b1
  have m2 : (x / 4294967296) * (y % 4294967296) ≤ 4294967295 * 4294967295 := Nat.mul_le_mul a2 b1
  have m3 : (x % 4294967296) * (y / 4294967296) ≤ 4294967295 * 4294967295 := Nat.mul_le_mul a1 b2
  have m4 : (x / 4294967296) * (y / 4294967296) ≤ 4294967295 * 4294967295 := Nat.mul_le_mul a2 b2
  have m5 : x * y ≤ 18446744073709551615 * 18446744073709551615 := Nat.mul_le_mul (by omega) (by omega)
  have ex : x = x / 4294967296 * 4294967296 + x % 4294967296 := by omega
  have ey : y = y / 4294967296 * 4294967296 + y % 4294967296 := by omega
  have e : x * y = (x / 4294967296) * (y / 4294967296) * 18446744073709551616 + ((x / 4294967296) * (y % 4294967296) + (x % 4294967296) * (y / 4294967296)) * 4294967296 + (x % 4294967296) * (y % 4294967296) := by
    conv => lhs; rw [ex, ey]
    generalize x / 4294967296 = a
    generalize x % 4294967296 = b
    generalize y / 4294967296 = c
    generalize y % 4294967296 = d
    rw [Nat.add_mul, Nat.mul_add, Nat.mul_add, Nat.add_mul]
    have h1 : a * 4294967296 * (c * 4294967296) = a * c * 18446744073709551616 := by
      rw [Nat.mul_assoc, Nat.mul_left_comm 4294967296 c, ← Nat.mul_assoc a c]
    have h2 : a * 4294967296 * d = a * d * 4294967296 := by rw [Nat.mul_assoc, Nat.mul_comm 4294967296 d, ← Nat.mul_assoc]
    have h3 : b * (c * 4294967296) = b * c * 4294967296 := by rw [← Nat.mul_assoc]
    rw [h1, h2, h3]
    omega
  refine ⟨by omega, by omega, by omega, by omega, ?_, by omega⟩
  rw [e]
  generalize (x / 4294967296) * (y / 4294967296) = p at *
  generalize (x / 4294967296) * (y % 4294967296) = q at *
  generalize (x % 4294967296) * (y / 4294967296) = s at *
  generalize (x % 4294967296) * (y % 4294967296) = t at *
  omega
/-- A product added to what stands there. -/
theorem mac {p c P : Nat} (hp : p < 18446744073709551616) (hc : c < 18446744073709551616) (hP : P ≤ 340282366920938463426481119284349108225) :
    P / 18446744073709551616 + (P % 18446744073709551616 + p) / 18446744073709551616 ≤ 18446744073709551615 ∧
    P / 18446744073709551616 + (P % 18446744073709551616 + p) / 18446744073709551616 + ((P % 18446744073709551616 + p) % 18446744073709551616 + c) / 18446744073709551616 ≤ 18446744073709551615 ∧
    ((P % 18446744073709551616 + p) % 18446744073709551616 + c) % 18446744073709551616 = (p + P + c) % 18446744073709551616 ∧
    P / 18446744073709551616 + (P % 18446744073709551616 + p) / 18446744073709551616 + ((P % 18446744073709551616 + p) % 18446744073709551616 + c) / 18446744073709551616 = (p + P + c) / 18446744073709551616 := by omega
theorem mod_succ_lim (X i : Nat) : X % 18446744073709551616 ^ (i + 1) = X % 18446744073709551616 ^ i + lim X i * 18446744073709551616 ^ i := by
  unfold lim
  rw [Nat.pow_succ, Nat.mod_mul, Nat.mul_comm (18446744073709551616 ^ i)]
theorem lim_mod256 (x i : Nat) (h : i < 4) : lim (x % 2 ^ 256) i = lim x i := lim_mod x i h
/-- Twice a word and a bit. -/
def lw (x b i : Nat) : Nat := if i = 0 then b else lim x (i - 1) / 9223372036854775808
theorem lw_le (x b i : Nat) (hb : b ≤ 1) : lw x b i ≤ 1 := by
  unfold lw; split
  · exact hb
  · have := lim_lt x (i - 1); omega
theorem dbl_lim (x b i : Nat) (hb : b ≤ 1) (hi : i < 4) : (lim x i * 2 % 18446744073709551616) ||| lw x b i = lim (2 * x + b) i := by
  have hw := lw_le x b i hb
  have h1 : (lim x i * 2 % 18446744073709551616) % 2 ^ 1 = 0 := by omega
  rw [nat_join 1 _ _ h1 (by omega)]
  unfold lw lim
  match i, hi with
  | 0, _ => simp; omega
  | 1, _ => simp; omega
  | 2, _ => simp; omega
  | 3, _ => simp; omega
theorem neqB_dec (b1 b2 : Bool) : (!(b1 == b2)) = decide (¬ b1 = b2) := by cases b1 <;> cases b2 <;> rfl
theorem eqB_dec (b1 b2 : Bool) : (b1 == b2) = decide (b1 = b2) := by cases b1 <;> cases b2 <;> rfl
theorem pow_low' (a b X : Nat) : X * a ^ b % 2 ^ 256 = (if b % 2 = 1 then X * a else X) * (a * a) ^ (b / 2) % 2 ^ 256 := by
  have e : a ^ b = a ^ (b % 2) * (a * a) ^ (b / 2) := by
    conv => lhs; rw [← Nat.div_add_mod b 2]
    rw [Nat.pow_add, Nat.pow_mul, Nat.pow_two, Nat.mul_comm]
  rw [e, ← Nat.mul_assoc]
  rcases Nat.mod_two_eq_zero_or_one b with h | h
  · rw [h, if_neg (by omega)]; simp
  · rw [h, if_pos rfl, Nat.pow_one]
theorem shrN_one (b : Nat) (h : b < 2 ^ 256) : shrN 1 b = b / 2 := by
  unfold shrN
  rw [show 1 % 2 ^ 256 = 1 by decide, if_pos (by omega), Nat.pow_one, Nat.mod_eq_of_lt h]
theorem shr32_nat (a : Nat) : ((a : Int)).fdiv (2 ^ min ((32 : Int)).toNat IntKind.u64.bits) = ((a / 4294967296 : Nat) : Int) := shr_nat a 32 (by omega)
theorem shr63_nat (a : Nat) : ((a : Int)).fdiv (2 ^ min ((63 : Int)).toNat IntKind.u64.bits) = ((a / 9223372036854775808 : Nat) : Int) := shr_nat a 63 (by omega)
theorem shl1_nat (a : Nat) : IntKind.u64.wrap ((a : Int) * 2 ^ min ((1 : Int)).toNat IntKind.u64.bits) = ((a * 2 % 18446744073709551616 : Nat) : Int) := shl_nat' a 1 (by omega)
theorem lg_dq (V : Nat) : Dq 18446744073709551616 (lg V) := by
  intro y hy
  unfold lg at hy
  simp at hy
  rcases hy with rfl | rfl | rfl | rfl | rfl | rfl | rfl | rfl <;> exact lim_lt _ _
theorem lg_zero : vq 18446744073709551616 (lg 0) = 0 := by decide +kernel
theorem lg_zero_get (q : Nat) : (lg 0).getD q 0 = 0 := by
  rcases Nat.lt_or_ge q 8 with h | h
  · rw [lg_get 0 q h]; unfold lim; simp
  · exact getD_far _ _ (by rw [lg_length]; exact h)
theorem retW {a b : Nat} (h : a % 2 ^ 256 = b % 2 ^ 256) : Ending.returned (Value.agg (wc a).toArray) = .returned (W b) := congrArg Ending.returned (W_congr h)
theorem J.add64z {f : FuncId} {fn : Func} {x y : Operand} {tys : Array TypeId} (hf : P.funcs[f]? = some fn) (hname : (fn.name == "runtime.NumGoroutine") = false) (hb : fn.body.isNone = true) (hn : Extern.findNext fn = none) (he : Extern.find fn = some add64Entry) {a1 a2 : Nat}
    (hx : ev σ x = some (.int .u64 (a1 : Int))) (hy : ev σ y = some (.int .u64 (a2 : Int))) (hd : okd N d)
    (h : J P ops F w0 M N lS L (putd d (.tuple [.int .u64 (((a1 + a2) % 18446744073709551616 : Nat) : Int), .int .u64 (((a1 + a2) / 18446744073709551616 : Nat) : Int)].toArray) σ) l) :
    J P ops F w0 M N lS ((⟨d, .call ⟨.value (.func f), #[x, y, .const (.int .u64 0)], tys⟩, ty, p, af, none⟩, k) :: L) σ l :=
  J.add64 hf hname hb hn he (cc := 0) hx hy rfl (by omega) hd h
theorem wc_at (x i : Nat) (h : i < 4) : (wc x)[0 + i * 1]? = some (.int .u64 ((lim x i : Nat) : Int)) := by
  have := rowN_get0 .u64 (wl x) i (by rw [wl_length]; exact h)
  rw [wl_get x i h] at this
  exact this
theorem lc_at (x i : Nat) (h : i < 8) : (lc x)[0 + i * 1]? = some (.int .u64 ((lim x i : Nat) : Int)) := by
  have := rowN_get0 .u64 (lg x) i (by rw [lg_length]; exact h)
  rw [lg_get x i h] at this
  exact this
theorem hb_high {Q J : Nat} (h : 256 ≤ J) : hb Q J % 2 ^ 256 = 0 := by
  unfold hb
  rw [show J = 256 + (J - 256) by omega, Nat.pow_add 2 256, Nat.mul_left_comm]
  exact Nat.mul_mod_right _ _
theorem shl_one (k : Nat) (h : k < 64) : IntKind.u64.wrap ((1 : Int) * 2 ^ min ((k : Int)).toNat IntKind.u64.bits) = ((2 ^ k : Nat) : Int) := by
  have := shl_nat 1 k ⟨by omega, by rw [Nat.one_mul]; exact Nat.lt_of_lt_of_le (Nat.pow_lt_pow_right (by omega) h) (by decide)⟩
  rw [Nat.one_mul] at this
  exact this
theorem lim_congr {x y : Nat} (h : x % 2 ^ 256 = y % 2 ^ 256) {i : Nat} (hi : i < 4) : lim x i = lim y i := by rw [← lim_mod x i hi, h, lim_mod y i hi]
/-- One bit more of a quotient. -/
theorem hb_set {Q G i k : Nat} (hi : i < 4) (hk : k < 64) (hQ : Q % 2 ^ 256 = hb G (64 * i + (k + 1)) % 2 ^ 256) (hbit : G / 2 ^ (64 * i + k) % 2 = 1) : (wl Q).set i (lim Q i ||| 2 ^ k) = wl (hb G (64 * i + k)) := by
  have e1 : (64 * i + k) / 64 = i := by omega
  have e2 : (64 * i + k) % 64 = k := by omega
  refine wl_of (by rw [List.length_set, wl_length]) _ (fun q hq => ?_)
  rw [getD_set _ _ _ _ (by rw [wl_length]; exact hi)]
  split
  · rename_i h
    subst h
    have := hb_lim G (64 * i + k)
    rw [e1, e2, hbit, Nat.one_mul] at this
    rw [this, lim_congr hQ hi, Nat.add_assoc]
  · rename_i h
    rw [wl_get _ _ hq, hb_lim_other G (64 * i + k) q (by rw [e1]; exact h), lim_congr hQ hq, Nat.add_assoc]
theorem lim3_top (R : Nat) : lim R 3 / 9223372036854775808 = R % 2 ^ 256 / 2 ^ 255 := by unfold lim; omega
/-- A store of what lies there. -/
theorem J.storeSame (h : Nat) {e : Ent} {o : Nat} (he : lk l h = some e) (hx : ev σ x = some (.pointer (some ⟨e.id.getD 0, o, none⟩))) (hy : ev σ y = some v) (vs : List Value) (hv : v.cells = vs.toArray) (hs : (P.info? t).map (·.size) = some vs.length)
    (hfit : o + vs.length ≤ e.cs.length) (h1 : ∀ u ∈ vs, u.oneCell' = true) (hne : 0 < vs.length) (hd : okd N d) (hcs : put e.cs o vs = e.cs)
    (hJ : J P ops F w0 M N lS L (putd d undef σ) l) : J P ops F w0 M N lS ((⟨d, .store t x y, ty, p, af, none⟩, .l) :: L) σ l :=
  J.loud rfl hd (ι := Unit) (fun _ => True) (fun _ => undef) (fun _ => l) (fun _ _ hs => hs) (fun a ha w hw => by
    have hat := hw.live h e he
    cases hid : e.id with
    | none =>
      simp only [Ent.At, hid] at hat
      rw [hat] at hfit
      simp at hfit
      simp [hfit.2] at hne
    | some g =>
      rw [hid] at hx
      simp only [Option.getD_some] at hx
      have hst := run_store_ent (P := P) hid hat vs hfit h1
      have hsz : vs.length = v.cells.size := by simp [hv]
      have hset := hw.set he hid (put e.cs o vs)
      have hrun : (execOp a.eval ⟨d, .store t x y, ty, p, af, none⟩).run P w = .ok .skip (w.setRow g (put e.cs o vs).toArray) := by
        simp only [execOp, ha.eval hx, ha.eval hy, Instr.storeAt, Instr.sureAddr, storeVar, Sem.run_bind, Sem.run_pure, Result.andThen, run_sizeOf hs, hsz, ne_eq, not_true_eq_false, if_false, hv, hst]
      rw [hcs] at hset
      rw [hrun, hcs]
      refine ⟨(), trivial, rfl, hset.sub fun n u hn => ?_⟩
      rw [lk_cons]
      split
      · rename_i hk; subst hk; rw [he] at hn; rw [← hn]
      · exact hn) (fun _ _ => hJ)
end Go.Fw
