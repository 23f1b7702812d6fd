/-
  Walks, printed by gen.py: what each function hands back, said of numbers.
  Conditions: those that each theorem bears.
-/
import Derived.Test.YtegociefcfcihaaDoorChecked
import Derived.Test.YtegociefcfcihaaDoorFn
import Derived.Test.YtegociefcfcihaaDoorPy
import Derived.Test.YtegociefcfcihaaDoorRa
set_option linter.unusedVariables false
set_option maxRecDepth 20000
namespace Go.Proofs.YtegociefcfcihaaDoor.Rc
open Go Go.Fw

theorem agg24 : AggT Tryd.prog 24 4 := ⟨⟨_, Tryd.underlying24, rfl⟩, by kernel_rfl⟩
theorem fok84 : FnOk Tryd.prog 84 := FnOk.mk' Tryd.func84 (by kernel_rfl) rfl
theorem el3 : ElT Tryd.prog 3 1 8 (.int .i64 0) := ⟨by kernel_rfl, rfl, by decide, by decide⟩
theorem fok144 : FnOk Tryd.prog 144 := FnOk.mk' Tryd.func144 (by kernel_rfl) rfl
theorem fok143 : FnOk Tryd.prog 143 := FnOk.mk' Tryd.func143 (by kernel_rfl) rfl
theorem sz3 : SizeT Tryd.prog 3 1 := (by unfold SizeT; kernel_rfl)
theorem sl62 : SlT Tryd.prog 62 3 1 := ⟨Tryd.underlying62, sz3⟩
theorem one3 : OneT Tryd.prog 3 := ⟨⟨_, Tryd.underlying3, rfl⟩, by kernel_rfl⟩

theorem Eq (w : World) (x0 : Nat) (x1 : Nat) :
    Calls Tryd.prog 80 [W x0, W x1].toArray w fun e w' => e = .returned (.bool (decide (x0 % 2 ^ 256 = x1 % 2 ^ 256))) ∧ WS w [] [] w' := by
  refine calls_of_T [] 9 [] Tryd.func80 rfl Tryd.ntmps80 (by simp) (WS.refl _ _) ?_
  refine T.seq ?_
  refine T.text [.l, .l, .l] rfl ?_
  refine J.box 2 rfl rfl (wc x0) rfl rfl (fun g2 hg2 => ?_)
  refine J.box 3 rfl rfl (wc x1) rfl rfl (fun g3 hg3 => ?_)
  refine J.assign rfl rfl ?_
  refine J.end ?_
  refine X.then ?_
  refine T.seq ?_
  refine T.text [.l, .l, .l, .l, .l] rfl ?_
  refine J.loadN (k := .l) trivial 2 rfl rfl agg24 (wc x0) rfl rfl rfl ?_
  refine J.loadN (k := .l) trivial 3 rfl rfl agg24 (wc x1) rfl rfl rfl ?_
  refine J.call0 (k := .l) trivial fok84 rfl rfl (fun w hw => Ra.Cmp w _ _) ?_
  refine J.eql rfl rfl rfl rfl ?_
  refine J.assign rfl rfl ?_
  refine J.end ?_
  refine X.then ?_
  refine T.ret ?_
  exact X.ret1 rfl (RV.tmp rfl) (fun w' hw' => ⟨by congr 2; exact decide_eq_decide.2 (cmpN_zero _ _), hw'.sub (Sub.nil _)⟩)

theorem small (w : World) (n : Nat) (hn : n < 9223372036854775808) :
    Calls Tryd.prog 131 [.int .i64 (n : Int)].toArray w fun e w' => RowsPost w 3 .i64 (fun zs => Dg zs ∧ zs.length ≤ 8 ∧ vl zs = n) e w' := by
  refine calls_of_T [] 14 [] Tryd.func131 rfl Tryd.ntmps131 (by simp) (WS.refl _ _) ?_
  refine T.seq ?_
  refine T.text [.l] rfl ?_
  refine J.assign rfl rfl ?_
  refine J.end ?_
  refine X.then ?_
  refine T.seq ?_
  refine T.text [.l] rfl ?_
  refine J.assign rfl rfl ?_
  refine J.end ?_
  refine X.then ?_
  refine T.seq ?_
  refine T.block ?_
  refine T.addNil 3 3 ?_
  refine T.loop (ι := Nat × List Nat × RowIx) (fun ((m, zs, r) : Nat × List Nat × RowIx) => m = n / 256 ^ zs.length ∧ (m = 0 → True) ∧ zs.length ≤ 8 ∧ Dg zs ∧ vl zs = n % 256 ^ zs.length ∧ r.Ok 1 zs.length) (fun ((m, zs, r) : Nat × List Nat × RowIx) => [(2, .slice none 0 0), (3, r.val zs.length), (0, .int .i64 (m : Int))]) (fun ((m, zs, r) : Nat × List Nat × RowIx) => [(3, r.ent 3 (rowN .i64 zs))]) (fun ((m, zs, r) : Nat × List Nat × RowIx) => m) ⟨n, [], RowIx.nil⟩ ⟨by rw [List.length_nil, Nat.pow_zero, Nat.div_one], fun _ => trivial, by simp, Dg.nil, by rw [List.length_nil, Nat.pow_zero, Nat.mod_one]; rfl, RowIx.nil_ok 1⟩ (by repeat (first | exact Sub.nil _ | refine Sub.cons (by first | rfl | (rw [dgs_zero]; rfl) | (rw [List.drop_length]; rfl) | (simp; done) | (congr 2; omega) | (congr 3; omega)) ?_)) (by repeat (first | exact Sub.nil _ | refine Sub.cons (by first | rfl | (rw [dgs_zero]; rfl) | (rw [List.drop_length]; rfl) | (simp; done) | (congr 2; omega) | (congr 3; omega)) ?_)) ?_
  rintro ⟨m, zs, r⟩ ⟨hm, _, hl, hz, hv, hr⟩
  try dsimp only at *
  refine T.seq ?_
  refine T.seq ?_
  refine T.text [.l, .l] rfl ?_
  refine J.move rfl rfl ?_
  refine J.gtr rfl rfl rfl rfl ?_
  refine J.end ?_
  refine X.then ?_
  refine T.cond_dec rfl (fun h1 => ?_) (fun h1 => ?_)
  · have hl8 : zs.length < 8 := small_len hn hl hm (by omega)
    have hml : m ≤ n := by rw [hm]; exact Nat.div_le_self _ _
    refine T.skip ?_
    refine X.then ?_
    refine T.block ?_
    refine T.seq ?_
    refine T.text [.l, .l, .l, .l, .l, .l] rfl ?_
    refine J.move rfl rfl ?_
    refine J.move rfl rfl ?_
    refine J.rem rfl rfl rfl (by omega) (by first | exact rem_nat _ 256 | exact rem_ok _ _ (by omega) | exact rfl) ?_
    refine J.lit1 9 rfl Tryd.underlying62 el3 (by decide) rfl [_] rfl rfl rfl (fun g9 hg9 => ?_)
    refine J.append 3 rfl Tryd.underlying62 el3 rfl hr (by rw [rowN_length, Nat.mul_one]) rfl rfl rfl (fun w hw => (hw.blkCs (k := 9) rfl)) (by first | exact rowN_one _ _ | (intro u hu; simp at hu; subst hu; rfl)) (by omega) (by unfold maxLen; omega) rfl (zs ++ [m % 256]).length (by simp) (rowN .i64 (zs ++ [m % 256])) (by rw [rowN_append]; rfl) (fun r10 hr10 => ?_)
    refine J.assign rfl rfl ?_
    refine J.end ?_
    refine X.then ?_
    refine T.text [.l, .l, .l] rfl ?_
    refine J.move rfl rfl ?_
    refine J.quo rfl rfl rfl (by omega) (by first | exact quo_nat _ 256 (by omega) | exact i64_quo_ok _ _ (by omega) | exact rfl) ?_
    refine J.assign rfl rfl ?_
    refine J.end ?_
    refine X.inBlock ?_
    exact X.round ⟨(m / 256), (zs ++ [m % 256]), r10⟩ ⟨by rw [List.length_append, List.length_singleton, Nat.pow_succ, ← Nat.div_div_eq_div_mul, ← hm], fun _ => trivial, by rw [List.length_append, List.length_singleton]; omega, hz.snoc (Nat.mod_lt _ (by omega)), by rw [vl_snoc, hv, hm, List.length_append, List.length_singleton]; exact small_snoc n _, hr10⟩ (by dsimp only; omega) (by repeat (first | exact Sub.nil _ | refine Sub.cons (by first | rfl | (rw [dgs_zero]; rfl) | (rw [List.drop_length]; rfl) | (simp; done) | (congr 2; omega) | (congr 3; omega)) ?_)) (by repeat (first | exact Sub.nil _ | refine Sub.cons (by first | rfl | (rw [dgs_zero]; rfl) | (rw [List.drop_length]; rfl) | (simp; done) | (congr 2; omega) | (congr 3; omega)) ?_))
  · obtain rfl : m = 0 := by omega
    refine T.exit ?_
    refine X.then_exit (X.then_exit (X.inBlock_eq (X.then ?_)))
    refine T.seq ?_
    refine T.text [.l, .l] rfl ?_
    refine J.move rfl rfl ?_
    refine J.assign rfl rfl ?_
    refine J.end ?_
    refine X.then ?_
    refine T.ret ?_
    exact X.ret1 rfl (RV.tmp rfl) (fun w' hw' => RowsPost.mk' zs ⟨hz, hl, by rw [hv]; exact Nat.mod_eq_of_lt (Nat.lt_of_div_eq_zero (Nat.pow_pos (by omega)) hm.symm)⟩ r hr rfl hw' 3 rfl)

theorem minus (w : World) (A0 : Option Addr) (c0 : Nat) (xs0 : List Nat) (hc0 : Cs w A0 (rowN .i64 xs0)) (A1 : Option Addr) (c1 : Nat) (xs1 : List Nat) (hc1 : Cs w A1 (rowN .i64 xs1)) (hx0 : Dg xs0) (hb0 : xs0.length ≤ 4294967296) (hx1 : Dg xs1) (hb1 : xs1.length ≤ 4294967296) (hle : vl xs1 ≤ vl xs0) :
    Calls Tryd.prog 112 [.slice A0 xs0.length c0, .slice A1 xs1.length c1].toArray w fun e w' => RowsPost w 3 .i64 (fun zs => Dg zs ∧ zs.length = max xs0.length xs1.length ∧ vl zs = vl xs0 - vl xs1) e w' := by
  refine calls_of_T [] 34 [] Tryd.func112 rfl Tryd.ntmps112 (by simp) (WS.refl _ _) ?_
  refine T.seq ?_
  refine T.text [.l] rfl ?_
  refine J.assign rfl rfl ?_
  refine J.end ?_
  refine X.then ?_
  refine T.seq ?_
  refine T.text [.l] rfl ?_
  refine J.assign rfl rfl ?_
  refine J.end ?_
  refine X.then ?_
  refine T.seq ?_
  refine T.text [.l] rfl ?_
  refine J.assign rfl rfl ?_
  refine J.end ?_
  refine X.then ?_
  refine T.seq ?_
  refine T.seq ?_
  refine T.text [.l] rfl ?_
  refine J.assign rfl rfl ?_
  refine J.end ?_
  refine X.then ?_
  refine T.block ?_
  refine T.addNil 5 3 ?_
  refine T.loop (ι := Nat × Nat × List Nat × RowIx) (fun ((i, b, zs, r) : Nat × Nat × List Nat × RowIx) => i ≤ max xs0.length xs1.length ∧ b ≤ 1 ∧ Dg zs ∧ zs.length = i ∧ vl zs + vl (xs1.take i) = vl (xs0.take i) + b * 256 ^ i ∧ r.Ok 1 zs.length) (fun ((i, b, zs, r) : Nat × Nat × List Nat × RowIx) => [(0, .slice A0 xs0.length c0), (1, .slice A1 xs1.length c1), (4, .slice none 0 0), (5, r.val zs.length), (6, .int .i64 (b : Int)), (7, .int .i64 (i : Int))]) (fun ((i, b, zs, r) : Nat × Nat × List Nat × RowIx) => [(5, r.ent 3 (rowN .i64 zs))]) (fun ((i, b, zs, r) : Nat × Nat × List Nat × RowIx) => max xs0.length xs1.length - i) ⟨0, 0, [], RowIx.nil⟩ ⟨Nat.zero_le _, Nat.zero_le _, Dg.nil, rfl, by simp [vl], RowIx.nil_ok 1⟩ (by repeat (first | exact Sub.nil _ | refine Sub.cons (by first | rfl | (rw [dgs_zero]; rfl) | (rw [List.drop_length]; rfl) | (simp; done) | (congr 2; omega) | (congr 3; omega)) ?_)) (by repeat (first | exact Sub.nil _ | refine Sub.cons (by first | rfl | (rw [dgs_zero]; rfl) | (rw [List.drop_length]; rfl) | (simp; done) | (congr 2; omega) | (congr 3; omega)) ?_)) ?_
  rintro ⟨i, b, zs, r⟩ ⟨hi, hbb, hz, hl, hv, hr⟩
  try dsimp only at *
  have hd0 := hx0.getD i
  have hd1 := hx1.getD i
  refine T.seq ?_
  refine T.seq ?_
  refine T.text [.l, .l, .l, .l, .l] rfl ?_
  refine J.move rfl rfl ?_
  refine J.move rfl rfl ?_
  refine J.move rfl rfl ?_
  refine J.call0 (k := .l) trivial fok144 rfl rfl (fun w hw => Ra.longer w _ _ _ _ _ _ (hc0.ws hw (off_nil _)) (hc1.ws hw (off_nil _))) ?_
  refine J.lss rfl rfl rfl rfl ?_
  refine J.end ?_
  refine X.then ?_
  refine T.cond_dec rfl (fun h1 => ?_) (fun h1 => ?_)
  · skip
    refine T.skip ?_
    refine X.then ?_
    refine T.seq ?_
    refine T.block ?_
    refine T.seq ?_
    refine T.text [.l, .l, .l, .l, .l, .l, .l, .l, .l, .l] rfl ?_
    refine J.move rfl rfl ?_
    refine J.move rfl rfl ?_
    refine J.call0 (k := .l) trivial fok143 rfl rfl (fun w hw => Ra.digit w _ _ _ _ (hc0.ws hw (off_nil _))) ?_
    refine J.move rfl rfl ?_
    refine J.move rfl rfl ?_
    refine J.call0 (k := .l) trivial fok143 rfl rfl (fun w hw => Ra.digit w _ _ _ _ (hc1.ws hw (off_nil _))) ?_
    refine J.sub' rfl rfl rfl (by exact i64_ok _ (by omega)) ?_
    refine J.move rfl rfl ?_
    refine J.sub' rfl rfl rfl (by exact i64_ok _ (by omega)) ?_
    refine J.assign rfl rfl ?_
    refine J.end ?_
    refine X.then ?_
    refine T.seq ?_
    refine T.text [.l] rfl ?_
    refine J.assign rfl rfl ?_
    refine J.end ?_
    refine X.then ?_
    refine T.seq ?_
    refine T.seq ?_
    refine T.text [.l, .l] rfl ?_
    refine J.move rfl rfl ?_
    refine J.lss rfl rfl rfl rfl ?_
    refine J.end ?_
    refine X.then ?_
    refine T.cond_dec rfl (fun h2 => ?_) (fun h2 => ?_)
    · skip
      refine T.seq ?_
      refine T.text [.l, .l, .l] rfl ?_
      refine J.move rfl rfl ?_
      refine J.add rfl rfl rfl (by exact i64_ok _ (by omega)) ?_
      refine J.as 28 (.int .i64 ((xs0.getD i 0 + 256 - xs1.getD i 0 - b : Nat) : Int)) rfl (by congr 1; omega) ?_
      refine J.assign rfl rfl ?_
      refine J.end ?_
      refine X.then ?_
      refine T.text [.l] rfl ?_
      refine J.assign rfl rfl ?_
      refine J.end ?_
      refine X.then ?_
      refine T.text [.l, .l, .l, .l, .l] rfl ?_
      refine J.move rfl rfl ?_
      refine J.move rfl rfl ?_
      refine J.lit1 31 rfl Tryd.underlying62 el3 (by decide) rfl [_] rfl rfl rfl (fun g31 hg31 => ?_)
      refine J.append 5 rfl Tryd.underlying62 el3 rfl hr (by rw [rowN_length, Nat.mul_one]) rfl rfl rfl (fun w hw => (hw.blkCs (k := 31) rfl)) (by first | exact rowN_one _ _ | (intro u hu; simp at hu; subst hu; rfl)) (by omega) (by unfold maxLen; omega) rfl (zs ++ [(xs0.getD i 0 + 256 - xs1.getD i 0 - b)]).length (by simp) (rowN .i64 (zs ++ [(xs0.getD i 0 + 256 - xs1.getD i 0 - b)])) (by rw [rowN_append]; rfl) (fun r32 hr32 => ?_)
      refine J.assign rfl rfl ?_
      refine J.end ?_
      refine X.inBlock (X.then ?_)
      refine T.text [.l, .l, .l] rfl ?_
      refine J.move rfl rfl ?_
      refine J.add rfl rfl rfl (by first | exact add_nat _ 1 (by omega) | exact i64_ok _ (by omega) | exact rfl) ?_
      refine J.assign rfl rfl ?_
      refine J.end ?_
      have hdz : (xs0.getD i 0 + 256 - xs1.getD i 0 - b) < 256 := by omega
      have hee : xs0.getD i 0 + 256 * 1 = xs1.getD i 0 + b + (xs0.getD i 0 + 256 - xs1.getD i 0 - b) := by omega
      exact X.round ⟨(i + 1), 1, (zs ++ [(xs0.getD i 0 + 256 - xs1.getD i 0 - b)]), r32⟩ ⟨by omega, by dsimp only; omega, hz.snoc hdz, by simp [hl], minus_step hl hv hee, hr32⟩ (by first | omega | (dsimp only; omega)) (by repeat (first | exact Sub.nil _ | refine Sub.cons (by first | rfl | (rw [dgs_zero]; rfl) | (rw [List.drop_length]; rfl) | (simp; done) | (congr 2; omega) | (congr 3; omega)) ?_)) (by repeat (first | exact Sub.nil _ | refine Sub.cons (by first | rfl | (rw [dgs_zero]; rfl) | (rw [List.drop_length]; rfl) | (simp; done) | (congr 2; omega) | (congr 3; omega)) ?_))
    · refine T.as 8 (.int .i64 ((xs0.getD i 0 - xs1.getD i 0 - b : Nat) : Int)) rfl (by congr 1; omega) ?_
      refine T.skip ?_
      refine X.then ?_
      refine T.text [.l, .l, .l, .l, .l] rfl ?_
      refine J.move rfl rfl ?_
      refine J.move rfl rfl ?_
      refine J.lit1 31 rfl Tryd.underlying62 el3 (by decide) rfl [_] rfl rfl rfl (fun g31 hg31 => ?_)
      refine J.append 5 rfl Tryd.underlying62 el3 rfl hr (by rw [rowN_length, Nat.mul_one]) rfl rfl rfl (fun w hw => (hw.blkCs (k := 31) rfl)) (by first | exact rowN_one _ _ | (intro u hu; simp at hu; subst hu; rfl)) (by omega) (by unfold maxLen; omega) rfl (zs ++ [(xs0.getD i 0 - xs1.getD i 0 - b)]).length (by simp) (rowN .i64 (zs ++ [(xs0.getD i 0 - xs1.getD i 0 - b)])) (by rw [rowN_append]; rfl) (fun r32 hr32 => ?_)
      refine J.assign rfl rfl ?_
      refine J.end ?_
      refine X.inBlock (X.then ?_)
      refine T.text [.l, .l, .l] rfl ?_
      refine J.move rfl rfl ?_
      refine J.add rfl rfl rfl (by first | exact add_nat _ 1 (by omega) | exact i64_ok _ (by omega) | exact rfl) ?_
      refine J.assign rfl rfl ?_
      refine J.end ?_
      have hdz : (xs0.getD i 0 - xs1.getD i 0 - b) < 256 := by omega
      have hee : xs0.getD i 0 + 256 * 0 = xs1.getD i 0 + b + (xs0.getD i 0 - xs1.getD i 0 - b) := by omega
      exact X.round ⟨(i + 1), 0, (zs ++ [(xs0.getD i 0 - xs1.getD i 0 - b)]), r32⟩ ⟨by omega, by dsimp only; omega, hz.snoc hdz, by simp [hl], minus_step hl hv hee, hr32⟩ (by first | omega | (dsimp only; omega)) (by repeat (first | exact Sub.nil _ | refine Sub.cons (by first | rfl | (rw [dgs_zero]; rfl) | (rw [List.drop_length]; rfl) | (simp; done) | (congr 2; omega) | (congr 3; omega)) ?_)) (by repeat (first | exact Sub.nil _ | refine Sub.cons (by first | rfl | (rw [dgs_zero]; rfl) | (rw [List.drop_length]; rfl) | (simp; done) | (congr 2; omega) | (congr 3; omega)) ?_))
  · skip
    refine T.exit ?_
    refine X.then_exit (X.then_exit (X.inBlock_eq (X.then ?_)))
    refine T.seq ?_
    refine T.text [.l, .l] rfl ?_
    refine J.move rfl rfl ?_
    refine J.assign rfl rfl ?_
    refine J.end ?_
    refine X.then ?_
    refine T.ret ?_
    exact X.ret1 rfl (RV.tmp rfl) (fun w' hw' => RowsPost.mk' zs ⟨hz, by omega, by
          obtain rfl : i = max xs0.length xs1.length := by omega
          rw [vl_take_all _ _ (by omega), vl_take_all _ _ (by omega)] at hv
          exact minus_end hz (by rw [hl]; exact hv) hle⟩ r hr rfl hw' 5 rfl)

set_option maxHeartbeats 1000000 in
theorem times (w : World) (A0 : Option Addr) (c0 : Nat) (xs0 : List Nat) (hc0 : Cs w A0 (rowN .i64 xs0)) (A1 : Option Addr) (c1 : Nat) (xs1 : List Nat) (hc1 : Cs w A1 (rowN .i64 xs1)) (hx0 : Dg xs0) (hb0 : xs0.length ≤ 4294967296) (hx1 : Dg xs1) (hb1 : xs1.length ≤ 4294967296) :
    Calls Tryd.prog 115 [.slice A0 xs0.length c0, .slice A1 xs1.length c1].toArray w fun e w' => RowsPost w 3 .i64 (fun zs => Dg zs ∧ zs.length = (xs0.length + xs1.length + 1) ∧ vl zs = vl xs0 * vl xs1) e w' := by
  refine calls_of_T [] 56 [] Tryd.func115 rfl Tryd.ntmps115 (by simp) (WS.refl _ _) ?_
  refine T.seq ?_
  refine T.text [.l] rfl ?_
  refine J.assign rfl rfl ?_
  refine J.end ?_
  refine X.then ?_
  refine T.seq ?_
  refine T.text [.l, .l, .l, .l, .l, .l, .l, .l] rfl ?_
  refine J.move rfl rfl ?_
  refine J.lenSl Tryd.underlying62 rfl rfl ?_
  refine J.move rfl rfl ?_
  refine J.lenSl Tryd.underlying62 rfl rfl ?_
  refine J.add rfl rfl rfl (by first | exact add_nat _ _ (by omega) | exact i64_ok _ (by omega) | exact rfl) ?_
  refine J.add rfl rfl rfl (by first | exact add_nat _ 1 (by omega) | exact i64_ok _ (by omega) | exact rfl) ?_
  refine J.makeSlice 16 rfl (q := (xs0.length + xs1.length + 1)) (c0 := (xs0.length + xs1.length + 1)) Tryd.underlying62 el3 rfl rfl (by first | rfl | omega) (by first | rfl | omega) (by omega) (by omega) (by unfold maxLen; omega) rfl (fun g16 hg16 => ?_)
  refine J.assign rfl rfl ?_
  refine J.end ?_
  refine X.then ?_
  refine T.seq ?_
  refine T.seq ?_
  refine T.text [.l] rfl ?_
  refine J.assign rfl rfl ?_
  refine J.end ?_
  refine X.then ?_
  refine T.block ?_
  refine T.asE 16 ⟨some g16, 3, rowN .i64 (List.replicate (xs0.length + xs1.length + 1) 0)⟩ rfl (by rw [zeros_nat]) ?_
  refine T.loop (ι := Nat × List Nat) (fun ((i, ps) : Nat × List Nat) => i ≤ xs0.length ∧ ps.length = (xs0.length + xs1.length + 1) ∧ Dq 256 ps ∧ vq 256 ps = vl (xs0.take i) * vl xs1 ∧ ∀ q, i + xs1.length ≤ q → ps.getD q 0 = 0) (fun ((i, ps) : Nat × List Nat) => [(0, .slice A0 xs0.length c0), (1, .slice A1 xs1.length c1), (4, .slice none 0 0), (10, .slice A0 xs0.length c0), (11, .int .i64 ((xs0.length : Nat) : Int)), (12, .slice A1 xs1.length c1), (13, .int .i64 ((xs1.length : Nat) : Int)), (16, .slice (hdOf (some g16)) (xs0.length + xs1.length + 1) (xs0.length + xs1.length + 1)), (5, .slice (hdOf (some g16)) (xs0.length + xs1.length + 1) (xs0.length + xs1.length + 1)), (6, .int .i64 (i : Int))]) (fun ((i, ps) : Nat × List Nat) => [(16, ⟨some g16, 3, rowN .i64 ps⟩)]) (fun ((i, ps) : Nat × List Nat) => xs0.length - i) ⟨0, (List.replicate (xs0.length + xs1.length + 1) 0)⟩ ⟨Nat.zero_le _, List.length_replicate, dq_zeros _ (by decide) _, by rw [vq_zeros, List.take_zero]; simp [vl], fun q hq => getD_replicate0 _ _⟩ (by repeat (first | exact Sub.nil _ | refine Sub.cons (by first | rfl | (rw [dgs_zero]; rfl) | (rw [List.drop_length]; rfl) | (simp; done) | (congr 2; omega) | (congr 3; omega)) ?_)) (by repeat (first | exact Sub.nil _ | refine Sub.cons (by first | rfl | (rw [dgs_zero]; rfl) | (rw [List.drop_length]; rfl) | (simp; done) | (congr 2; omega) | (congr 3; omega)) ?_)) ?_
  rintro ⟨i, ps⟩ ⟨hi, hl, hd, hv, hz⟩
  try dsimp only at *
  refine T.seq ?_
  refine T.seq ?_
  refine T.text [.l, .l, .l, .l] rfl ?_
  refine J.move rfl rfl ?_
  refine J.move rfl rfl ?_
  refine J.lenSl Tryd.underlying62 rfl rfl ?_
  refine J.lss rfl rfl rfl rfl ?_
  refine J.end ?_
  refine X.then ?_
  refine T.cond_dec rfl (fun h1 => ?_) (fun h1 => ?_)
  · have hxi := hx0.getD i
    refine T.skip ?_
    refine X.then ?_
    refine T.seq ?_
    refine T.block ?_
    refine T.seq ?_
    refine T.text [.l] rfl ?_
    refine J.assign rfl rfl ?_
    refine J.end ?_
    refine X.then ?_
    refine T.seq ?_
    refine T.text [.l] rfl ?_
    refine J.assign rfl rfl ?_
    refine J.end ?_
    refine X.then ?_
    refine T.block ?_
    refine T.loop (ι := Nat × Nat × List Nat) (fun ((k, c, ps2) : Nat × Nat × List Nat) => k ≤ xs1.length + 1 ∧ c < 256 ∧ ps2.length = (xs0.length + xs1.length + 1) ∧ Dq 256 ps2 ∧ vq 256 ps2 + c * 256 ^ (i + k) = vl (xs0.take i) * vl xs1 + xs0.getD i 0 * vl (xs1.take k) * 256 ^ i ∧ ∀ q, i + xs1.length + (if k ≤ xs1.length then 0 else 1) ≤ q → ps2.getD q 0 = 0) (fun ((k, c, ps2) : Nat × Nat × List Nat) => [(0, .slice A0 xs0.length c0), (1, .slice A1 xs1.length c1), (4, .slice none 0 0), (10, .slice A0 xs0.length c0), (11, .int .i64 ((xs0.length : Nat) : Int)), (12, .slice A1 xs1.length c1), (13, .int .i64 ((xs1.length : Nat) : Int)), (16, .slice (hdOf (some g16)) (xs0.length + xs1.length + 1) (xs0.length + xs1.length + 1)), (5, .slice (hdOf (some g16)) (xs0.length + xs1.length + 1) (xs0.length + xs1.length + 1)), (6, .int .i64 (i : Int)), (17, .int .i64 (i : Int)), (18, .slice A0 xs0.length c0), (19, .int .i64 ((xs0.length : Nat) : Int)), (8, .int .i64 (k : Int)), (7, .int .i64 (c : Int))]) (fun ((k, c, ps2) : Nat × Nat × List Nat) => [(16, ⟨some g16, 3, rowN .i64 ps2⟩)]) (fun ((k, c, ps2) : Nat × Nat × List Nat) => xs1.length + 1 - k) ⟨0, 0, ps⟩ ⟨Nat.zero_le _, by omega, hl, hd, by rw [hv, List.take_zero]; simp [vl], fun q hq => hz q (by rw [if_pos (Nat.zero_le _)] at hq; exact hq)⟩ (by repeat (first | exact Sub.nil _ | refine Sub.cons (by first | rfl | (rw [dgs_zero]; rfl) | (rw [List.drop_length]; rfl) | (simp; done) | (congr 2; omega) | (congr 3; omega)) ?_)) (by repeat (first | exact Sub.nil _ | refine Sub.cons (by first | rfl | (rw [dgs_zero]; rfl) | (rw [List.drop_length]; rfl) | (simp; done) | (congr 2; omega) | (congr 3; omega)) ?_)) ?_
    rintro ⟨k, c, ps2⟩ ⟨hk, hc, hl2, hd2, hv2, hz2⟩
    try dsimp only at *
    refine T.seq ?_
    refine T.seq ?_
    refine T.text [.l, .l, .l, .l] rfl ?_
    refine J.move rfl rfl ?_
    refine J.move rfl rfl ?_
    refine J.lenSl Tryd.underlying62 rfl rfl ?_
    refine J.leq rfl rfl rfl rfl ?_
    refine J.end ?_
    refine X.then ?_
    refine T.cond_dec rfl (fun h2 => ?_) (fun h2 => ?_)
    · have hdk := hx1.getD k
      have hgl : ps2.getD (i + k) 0 < 256 := hd2.getD (by omega) (i + k)
      have hst := mul_step (by omega) hd2 (show i + k < ps2.length by omega) hxi hdk hc
      have hxy : xs0.getD i 0 * xs1.getD k 0 ≤ 255 * 255 := Nat.mul_le_mul (by omega) (by omega)
      have hv4 := times_round (xs1 := xs1) hst.2.2 hv2
      have hz4 := times_zero (v := (ps2.getD (i + k) 0 + xs0.getD i 0 * xs1.getD k 0 + c) % 256) (k := k) hl2 ⟨by omega, by omega⟩ hz2
      refine T.skip ?_
      refine X.then ?_
      refine T.seq ?_
      refine T.block ?_
      refine T.seq ?_
      refine T.draw [] [(0, .g), (1, .g), (2, .g), (3, .g), (4, .g), (5, .q), (6, .g), (7, .g), (8, .g), (9, .q), (10, .g), (11, .g), (12, .q), (13, .g), (14, .g), (15, .g), (16, .g), (17, .g)] (by kernel_rfl) (by kernel_rfl) ?_ (by repeat (first | exact Sub.nil _ | refine Sub.cons (by first | rfl | (rw [dgs_zero]; rfl) | (rw [List.drop_length]; rfl) | (simp; done) | (congr 2; omega) | (congr 3; omega)) ?_))
      refine J.move rfl rfl ?_
      refine J.move rfl rfl ?_
      refine J.move rfl rfl ?_
      refine J.add rfl rfl rfl (by first | exact add_nat _ _ (by omega) | exact i64_ok _ (by omega) | exact rfl) ?_
      refine J.indexRow sl62 rfl rfl rfl (by omega) (by omega) (by first | exact Int.toNat_natCast _ | rfl) rfl ?_
      refine J.load1 (k := .q) trivial 16 rfl rfl one3 (by first | rfl | with_reducible exact rowN_get0 _ _ _ (by omega) | with_reducible exact rowN_get1 _ _ _ (by omega) | with_reducible exact rowN_get1s _ _ _ _ (by omega) | exact rowN_get1 _ _ _ (by omega) | exact rowN_get1s _ _ _ _ (by omega) | exact rowN_get0 _ _ _ (by omega)) rfl ?_
      refine J.move rfl rfl ?_
      refine J.move rfl rfl ?_
      refine J.indexSlI sl62 rfl (Cs.isSomeN hc0 (by omega)) rfl (by omega) (by omega) (by first | exact Int.toNat_natCast _ | rfl) rfl ?_
      refine J.loadI1 (k := .q) trivial hc0 (off_nil _) rfl one3 (by first | rfl | with_reducible exact rowN_get1 _ _ _ (by omega) | with_reducible exact rowN_get _ _ _ (by omega) | exact rowN_get1 _ _ _ (by omega)) rfl ?_
      refine J.move rfl rfl ?_
      refine J.move rfl rfl ?_
      refine J.call0 (k := .q) trivial fok143 rfl rfl (fun w hw => Ra.digit w _ _ _ _ (hc1.ws hw (off_nil _))) ?_
      refine J.mul rfl rfl rfl (by first | exact mul_nat _ _ (by omega) | exact i64_ok _ (by omega) | exact rfl) ?_
      refine J.add rfl rfl rfl (by first | exact add_nat _ _ (by omega) | exact i64_ok _ (by omega) | exact rfl) ?_
      refine J.move rfl rfl ?_
      refine J.add rfl rfl rfl (by first | exact add_nat _ _ (by omega) | exact i64_ok _ (by omega) | exact rfl) ?_
      refine J.assign rfl rfl ?_
      refine J.end ?_
      refine X.then ?_
      refine T.seq ?_
      refine T.text [.l, .l, .l, .l, .l, .l, .l, .l] rfl ?_
      refine J.move rfl rfl ?_
      refine J.move rfl rfl ?_
      refine J.move rfl rfl ?_
      refine J.add rfl rfl rfl (by first | exact add_nat _ _ (by omega) | exact i64_ok _ (by omega) | exact rfl) ?_
      refine J.move rfl rfl ?_
      refine J.rem rfl rfl rfl (by omega) (by first | exact rem_nat _ 256 | exact rem_ok _ _ (by omega) | exact rfl) ?_
      refine J.indexRow sl62 rfl rfl rfl (by omega) (by omega) (by first | exact Int.toNat_natCast _ | rfl) rfl ?_
      refine J.store 16 rfl rfl rfl rfl [.int .i64 (((ps2.getD (i + k) 0 + xs0.getD i 0 * xs1.getD k 0 + c) % 256 : Nat) : Int)] rfl sz3 (by rw [rowN_length, hl2]; show _ + 1 ≤ _; omega) (by first | exact rowN_one _ _ | (simp; done) | (intro u hu; simp at hu; subst hu; rfl) | (intro u hu; simp at hu; rcases hu with rfl | rfl <;> rfl)) (by first | decide | exact Nat.zero_lt_succ _ | simp) trivial (rowN .i64 (ps2.set (i + k) ((ps2.getD (i + k) 0 + xs0.getD i 0 * xs1.getD k 0 + c) % 256))) (by rw [Nat.mul_one]; exact putN' _ _ _ _ (by omega)) ?_
      refine J.end ?_
      refine X.then ?_
      refine T.text [.l, .l, .l] rfl ?_
      refine J.move rfl rfl ?_
      refine J.quo rfl rfl rfl (by omega) (by first | exact quo_nat _ 256 (by omega) | exact i64_quo_ok _ _ (by omega) | exact rfl) ?_
      refine J.assign rfl rfl ?_
      refine J.end ?_
      refine X.inBlock (X.then ?_)
      refine T.text [.l, .l, .l] rfl ?_
      refine J.move rfl rfl ?_
      refine J.add rfl rfl rfl (by first | exact add_nat _ 1 (by omega) | exact i64_ok _ (by omega) | exact rfl) ?_
      refine J.assign rfl rfl ?_
      refine J.end ?_
      exact X.round ⟨(k + 1), ((ps2.getD (i + k) 0 + xs0.getD i 0 * xs1.getD k 0 + c) / 256), (ps2.set (i + k) ((ps2.getD (i + k) 0 + xs0.getD i 0 * xs1.getD k 0 + c) % 256))⟩ ⟨by omega, hst.1, by rw [List.length_set]; exact hl2, hst.2.1, hv4, hz4⟩ (by first | omega | (dsimp only; omega)) (by repeat (first | exact Sub.nil _ | refine Sub.cons (by first | rfl | (rw [dgs_zero]; rfl) | (rw [List.drop_length]; rfl) | (simp; done) | (congr 2; omega) | (congr 3; omega)) ?_)) (by repeat (first | exact Sub.nil _ | refine Sub.cons (by first | rfl | (rw [dgs_zero]; rfl) | (rw [List.drop_length]; rfl) | (simp; done) | (congr 2; omega) | (congr 3; omega)) ?_))
    · obtain rfl : k = xs1.length + 1 := by omega
      have hc0 := times_carry hx0 hx1 hv2
      have hv3 : vq 256 ps2 = vl (xs0.take (i + 1)) * vl xs1 := times_done hv2 hc0
      have hz3 := hz2
      rw [if_neg (by omega)] at hz2
      refine T.exit ?_
      refine X.then_exit (X.then_exit (X.inBlock_eq (X.inBlock (X.then ?_))))
      refine T.text [.l, .l, .l] rfl ?_
      refine J.move rfl rfl ?_
      refine J.add rfl rfl rfl (by first | exact add_nat _ 1 (by omega) | exact i64_ok _ (by omega) | exact rfl) ?_
      refine J.assign rfl rfl ?_
      refine J.end ?_
      exact X.round ⟨(i + 1), ps2⟩ ⟨by omega, hl2, hd2, hv3, fun q hq => hz2 q (by omega)⟩ (by first | omega | (dsimp only; omega)) (by repeat (first | exact Sub.nil _ | refine Sub.cons (by first | rfl | (rw [dgs_zero]; rfl) | (rw [List.drop_length]; rfl) | (simp; done) | (congr 2; omega) | (congr 3; omega)) ?_)) (by repeat (first | exact Sub.nil _ | refine Sub.cons (by first | rfl | (rw [dgs_zero]; rfl) | (rw [List.drop_length]; rfl) | (simp; done) | (congr 2; omega) | (congr 3; omega)) ?_))
  · obtain rfl : i = xs0.length := by omega
    rw [List.take_length, vq_vl] at hv
    refine T.exit ?_
    refine X.then_exit (X.then_exit (X.inBlock_eq (X.then ?_)))
    refine T.seq ?_
    refine T.text [.l, .l] rfl ?_
    refine J.move rfl rfl ?_
    refine J.assign rfl rfl ?_
    refine J.end ?_
    refine X.then ?_
    refine T.ret ?_
    exact X.ret1 rfl (RV.tmp rfl) (fun w' hw' => RowsPost.mk' ps ⟨dg_of hd, hl, hv⟩ ⟨some g16, (xs0.length + xs1.length + 1), []⟩ (by rw [← hl]; exact RowIx.blk_ok' g16 ps.length 1 (by unfold maxLen; omega)) (by rw [hl]; rfl) hw' 16 (by simp [RowIx.ent]; rfl))
end Go.Proofs.YtegociefcfcihaaDoor.Rc
