/-
  Walks, printed by gen.py: what each function hands back, said of numbers.
  Conditions: those that each theorem bears.
-/
import Derived.Test.YtpkjbeebhdgleaaChecked
import Derived.Test.YtpkjbeebhdgleaaFg
set_option linter.unusedVariables false
set_option maxRecDepth 20000
namespace Go.Proofs.Ytpkjbeebhdgleaa.Ra
open Go Go.Fw

theorem sz3 : SizeT Try.prog 3 1 := (by unfold SizeT; kernel_rfl)
theorem sl114 : SlT Try.prog 114 3 1 := ⟨Try.underlying114, sz3⟩
theorem one3 : OneT Try.prog 3 := ⟨⟨_, Try.underlying3, rfl⟩, by kernel_rfl⟩
theorem fok111 : FnOk Try.prog 111 := FnOk.mk' Try.func111 (by kernel_rfl) rfl
theorem fok112 : FnOk Try.prog 112 := FnOk.mk' Try.func112 (by kernel_rfl) rfl
theorem el3 : ElT Try.prog 3 1 8 (.int .i64 0) := ⟨by kernel_rfl, rfl, by decide, by decide⟩
theorem zero25 : ZeroT Try.prog 25 (.agg ([.int .u64 0, .int .u64 0, .int .u64 0, .int .u64 0]).toArray) := (by unfold ZeroT; kernel_rfl)
theorem sz23 : SizeT Try.prog 23 1 := (by unfold SizeT; kernel_rfl)
theorem arr25 : ArrT Try.prog 25 4 23 1 := ⟨Try.underlying25, sz23⟩
theorem one23 : OneT Try.prog 23 := ⟨⟨_, Try.underlying23, rfl⟩, by kernel_rfl⟩
theorem agg25 : AggT Try.prog 25 4 := ⟨⟨_, Try.underlying25, rfl⟩, by kernel_rfl⟩
theorem sz25 : SizeT Try.prog 25 4 := (by unfold SizeT; kernel_rfl)
theorem fok88 : FnOk Try.prog 88 := FnOk.mk' Try.func88 (by kernel_rfl) rfl
theorem fok104 : FnOk Try.prog 104 := FnOk.mk' Try.func104 (by kernel_rfl) rfl
theorem fok107 : FnOk Try.prog 107 := FnOk.mk' Try.func107 (by kernel_rfl) rfl
theorem fok101 : FnOk Try.prog 101 := FnOk.mk' Try.func101 (by kernel_rfl) rfl
theorem fok74 : FnOk Try.prog 74 := FnOk.mk' Try.func74 (by kernel_rfl) rfl

theorem digit (w : World) (A0 : Option Addr) (c0 : Nat) (xs0 : List Nat) (i : Nat) (hc0 : Cs w A0 (rowN .i64 xs0)) :
    Calls Try.prog 112 [.slice A0 xs0.length c0, .int .i64 (i : Int)].toArray w fun e w' => e = .returned (.int .i64 ((xs0.getD i 0 : Nat) : Int)) ∧ WS w [] [] w' := by
  refine calls_of_T [] 13 [] Try.func112 rfl Try.ntmps112 (by simp) (WS.refl _ _) ?_
  refine T.seq ?_
  refine T.text [.l] rfl ?_
  refine J.assign rfl rfl ?_
  refine J.end ?_
  refine X.then ?_
  refine T.seq ?_
  refine T.seq ?_
  refine T.text [.l, .l, .l, .l] rfl ?_
  refine J.move rfl rfl ?_
  refine J.move rfl rfl ?_
  refine J.lenSl Try.underlying114 rfl rfl ?_
  refine J.lss rfl rfl rfl rfl ?_
  refine J.end ?_
  refine X.then ?_
  refine T.cond_dec rfl (fun h1 => ?_) (fun h1 => ?_)
  · skip
    refine T.seq ?_
    refine T.text [.l, .l, .l, .l, .l] rfl ?_
    refine J.move rfl rfl ?_
    refine J.move rfl rfl ?_
    refine J.indexSlI sl114 rfl (Cs.isSomeN hc0 (by omega)) rfl (by omega) (by omega) (by first | exact Int.toNat_natCast _ | rfl) rfl ?_
    refine J.loadI1 (k := .l) trivial hc0 (off_nil _) rfl one3 (by first | rfl | with_reducible exact rowN_get1 _ _ _ (by omega) | with_reducible exact rowN_get _ _ _ (by omega) | exact rowN_get1 _ _ _ (by omega)) rfl ?_
    refine J.assign rfl rfl ?_
    refine J.end ?_
    refine X.then ?_
    refine T.ret ?_
    refine X.then_ret ?_
    exact X.ret1 rfl (RV.tmp rfl) (fun w' hw' => ⟨rfl, hw'.sub (Sub.nil _)⟩)
  · skip
    refine T.skip ?_
    refine X.then ?_
    refine T.seq ?_
    refine T.text [.l] rfl ?_
    refine J.assign rfl rfl ?_
    refine J.end ?_
    refine X.then ?_
    refine T.ret ?_
    exact X.ret1 rfl (RV.tmp rfl) (fun w' hw' => ⟨by rw [List.getD_eq_getElem?_getD, List.getElem?_eq_none (by omega)]; rfl, hw'.sub (Sub.nil _)⟩)

theorem longer (w : World) (A0 : Option Addr) (c0 : Nat) (xs0 : List Nat) (A1 : Option Addr) (c1 : Nat) (xs1 : List Nat) (hc0 : Cs w A0 (rowN .i64 xs0)) (hc1 : Cs w A1 (rowN .i64 xs1)) :
    Calls Try.prog 111 [.slice A0 xs0.length c0, .slice A1 xs1.length c1].toArray w fun e w' => e = .returned (.int .i64 ((max xs0.length xs1.length : Nat) : Int)) ∧ WS w [] [] w' := by
  refine calls_of_T [] 14 [] Try.func111 rfl Try.ntmps111 (by simp) (WS.refl _ _) ?_
  refine T.seq ?_
  refine T.text [.l] rfl ?_
  refine J.assign rfl rfl ?_
  refine J.end ?_
  refine X.then ?_
  refine T.seq ?_
  refine T.seq ?_
  refine T.text [.l, .l, .l, .l, .l] rfl ?_
  refine J.move rfl rfl ?_
  refine J.lenSl Try.underlying114 rfl rfl ?_
  refine J.move rfl rfl ?_
  refine J.lenSl Try.underlying114 rfl rfl ?_
  refine J.gtr rfl rfl rfl rfl ?_
  refine J.end ?_
  refine X.then ?_
  refine T.cond_dec rfl (fun h1 => ?_) (fun h1 => ?_)
  · skip
    refine T.seq ?_
    refine T.text [.l, .l, .l] rfl ?_
    refine J.move rfl rfl ?_
    refine J.lenSl Try.underlying114 rfl rfl ?_
    refine J.assign rfl rfl ?_
    refine J.end ?_
    refine X.then ?_
    refine T.ret ?_
    refine X.then_ret ?_
    exact X.ret1 rfl (RV.tmp rfl) (fun w' hw' => ⟨by congr 2; omega, hw'.sub (Sub.nil _)⟩)
  · skip
    refine T.skip ?_
    refine X.then ?_
    refine T.seq ?_
    refine T.text [.l, .l, .l] rfl ?_
    refine J.move rfl rfl ?_
    refine J.lenSl Try.underlying114 rfl rfl ?_
    refine J.assign rfl rfl ?_
    refine J.end ?_
    refine X.then ?_
    refine T.ret ?_
    exact X.ret1 rfl (RV.tmp rfl) (fun w' hw' => ⟨by congr 2; omega, hw'.sub (Sub.nil _)⟩)

theorem none_ (w : World) (A0 : Option Addr) (c0 : Nat) (xs0 : List Nat) (hc0 : Cs w A0 (rowN .i64 xs0)) (hb0 : xs0.length ≤ 4294967296) :
    Calls Try.prog 101 [.slice A0 xs0.length c0].toArray w fun e w' => e = .returned (.bool (decide (vl xs0 = 0))) ∧ WS w [] [] w' := by
  refine calls_of_T [] 15 [] Try.func101 rfl Try.ntmps101 (by simp) (WS.refl _ _) ?_
  refine T.seq ?_
  refine T.text [.l] rfl ?_
  refine J.assign rfl rfl ?_
  refine J.end ?_
  refine X.then ?_
  refine T.seq ?_
  refine T.seq ?_
  refine T.text [.l] rfl ?_
  refine J.assign rfl rfl ?_
  refine J.end ?_
  refine X.then ?_
  refine T.block ?_
  refine T.loop (ι := Nat) (fun (k : Nat) => k ≤ xs0.length ∧ ∀ t, t < k → xs0.getD t 0 = 0) (fun (k : Nat) => [(0, .slice A0 xs0.length c0), (3, .int .i64 (k : Int))]) (fun (k : Nat) => []) (fun (k : Nat) => xs0.length - k) 0 ⟨Nat.zero_le _, fun t ht => by omega⟩ (by repeat (first | exact Sub.nil _ | refine Sub.cons (by first | rfl | (rw [dgs_zero]; rfl) | (rw [List.drop_length]; rfl) | (simp; done) | (congr 2; omega) | (congr 3; omega)) ?_)) (by repeat (first | exact Sub.nil _ | refine Sub.cons (by first | rfl | (rw [dgs_zero]; rfl) | (rw [List.drop_length]; rfl) | (simp; done) | (congr 2; omega) | (congr 3; omega)) ?_)) ?_
  rintro k ⟨hk, hz⟩
  refine T.seq ?_
  refine T.seq ?_
  refine T.text [.l, .l, .l, .l] rfl ?_
  refine J.move rfl rfl ?_
  refine J.move rfl rfl ?_
  refine J.lenSl Try.underlying114 rfl rfl ?_
  refine J.lss rfl rfl rfl rfl ?_
  refine J.end ?_
  refine X.then ?_
  refine T.cond_dec rfl (fun h1 => ?_) (fun h1 => ?_)
  · skip
    refine T.skip ?_
    refine X.then ?_
    refine T.seq ?_
    refine T.block ?_
    refine T.seq ?_
    refine T.text [.l, .l, .l, .l, .l] rfl ?_
    refine J.move rfl rfl ?_
    refine J.move rfl rfl ?_
    refine J.indexSlI sl114 rfl (Cs.isSomeN hc0 (by omega)) rfl (by omega) (by omega) (by first | exact Int.toNat_natCast _ | rfl) rfl ?_
    refine J.loadI1 (k := .l) trivial hc0 (off_nil _) rfl one3 (by first | rfl | with_reducible exact rowN_get1 _ _ _ (by omega) | with_reducible exact rowN_get _ _ _ (by omega) | exact rowN_get1 _ _ _ (by omega)) rfl ?_
    refine J.neq rfl rfl rfl rfl ?_
    refine J.end ?_
    refine X.then ?_
    refine T.cond_dec rfl (fun h2 => ?_) (fun h2 => ?_)
    · skip
      refine T.seq ?_
      refine T.text [.l] rfl ?_
      refine J.assign rfl rfl ?_
      refine J.end ?_
      refine X.then ?_
      refine T.ret ?_
      refine X.inBlock_ret (X.then_ret (X.then_ret (X.inBlock_ret (X.then_ret ?_))))
      exact X.ret1 rfl (RV.tmp rfl) (fun w' hw' => ⟨by rw [decide_eq_false (vl_pos _ k (by omega))], hw'.sub (Sub.nil _)⟩)
    · skip
      refine T.skip ?_
      refine X.inBlock (X.then ?_)
      refine T.text [.l, .l, .l] rfl ?_
      refine J.move rfl rfl ?_
      refine J.add rfl rfl rfl (by first | exact add_nat _ 1 (by omega) | exact i64_ok _ (by omega) | exact rfl) ?_
      refine J.assign rfl rfl ?_
      refine J.end ?_
      exact X.round (k + 1) ⟨by omega, fun t ht => (Nat.lt_or_ge t k).elim (hz t) (fun h => by obtain rfl : t = k := (by omega); omega)⟩ (by first | omega | (dsimp only; omega)) (by repeat (first | exact Sub.nil _ | refine Sub.cons (by first | rfl | (rw [dgs_zero]; rfl) | (rw [List.drop_length]; rfl) | (simp; done) | (congr 2; omega) | (congr 3; omega)) ?_)) (by repeat (first | exact Sub.nil _ | refine Sub.cons (by first | rfl | (rw [dgs_zero]; rfl) | (rw [List.drop_length]; rfl) | (simp; done) | (congr 2; omega) | (congr 3; omega)) ?_))
  · skip
    refine T.exit ?_
    refine X.then_exit (X.then_exit (X.inBlock_eq (X.then ?_)))
    refine T.seq ?_
    refine T.text [.l] rfl ?_
    refine J.assign rfl rfl ?_
    refine J.end ?_
    refine X.then ?_
    refine T.ret ?_
    exact X.ret1 rfl (RV.tmp rfl) (fun w' hw' => ⟨by rw [decide_eq_true (vl_zero fun t => (Nat.lt_or_ge t k).elim (hz t) (fun h => by rw [List.getD_eq_getElem?_getD, List.getElem?_eq_none (by omega)]; rfl))], hw'.sub (Sub.nil _)⟩)

theorem compare (w : World) (A0 : Option Addr) (c0 : Nat) (xs0 : List Nat) (hc0 : Cs w A0 (rowN .i64 xs0)) (A1 : Option Addr) (c1 : Nat) (xs1 : List Nat) (hc1 : Cs w A1 (rowN .i64 xs1)) (hx0 : Dg xs0) (hb0 : xs0.length ≤ 4294967296) (hx1 : Dg xs1) (hb1 : xs1.length ≤ 4294967296) :
    Calls Try.prog 104 [.slice A0 xs0.length c0, .slice A1 xs1.length c1].toArray w fun e w' => e = .returned (.int .i64 (cmpN (vl xs0) (vl xs1))) ∧ WS w [] [] w' := by
  refine calls_of_T [] 28 [] Try.func104 rfl Try.ntmps104 (by simp) (WS.refl _ _) ?_
  refine T.seq ?_
  refine T.text [.l] rfl ?_
  refine J.assign rfl rfl ?_
  refine J.end ?_
  refine X.then ?_
  refine T.seq ?_
  refine T.seq ?_
  refine T.text [.l, .l, .l, .l, .l] rfl ?_
  refine J.move rfl rfl ?_
  refine J.move rfl rfl ?_
  refine J.call0 (k := .l) trivial fok111 rfl rfl (fun w hw => Ra.longer w _ _ _ _ _ _ (hc0.ws hw (off_nil _)) (hc1.ws hw (off_nil _))) ?_
  refine J.sub' rfl rfl rfl (by exact i64_ok _ (by omega)) ?_
  refine J.assign rfl rfl ?_
  refine J.end ?_
  refine X.then ?_
  refine T.block ?_
  refine T.loop (ι := Nat) (fun (j : Nat) => j ≤ max xs0.length xs1.length ∧ ∀ t, j ≤ t → xs0.getD t 0 = xs1.getD t 0) (fun (j : Nat) => [(0, .slice A0 xs0.length c0), (1, .slice A1 xs1.length c1), (8, .slice A0 xs0.length c0), (9, .slice A1 xs1.length c1), (5, .int .i64 ((j : Int) - 1))]) (fun (j : Nat) => []) (fun (j : Nat) => j) (max xs0.length xs1.length) ⟨Nat.le_refl _, fun t ht => by rw [List.getD_eq_getElem?_getD, List.getD_eq_getElem?_getD, List.getElem?_eq_none (by omega), List.getElem?_eq_none (by omega)]⟩ (by repeat (first | exact Sub.nil _ | refine Sub.cons (by first | rfl | (rw [dgs_zero]; rfl) | (rw [List.drop_length]; rfl) | (simp; done) | (congr 2; omega) | (congr 3; omega)) ?_)) (by repeat (first | exact Sub.nil _ | refine Sub.cons (by first | rfl | (rw [dgs_zero]; rfl) | (rw [List.drop_length]; rfl) | (simp; done) | (congr 2; omega) | (congr 3; omega)) ?_)) ?_
  rintro j ⟨hj, hz⟩
  refine T.seq ?_
  refine T.seq ?_
  refine T.text [.l, .l] rfl ?_
  refine J.move rfl rfl ?_
  refine J.geq rfl rfl rfl rfl ?_
  refine J.end ?_
  refine X.then ?_
  refine T.cond_dec rfl (fun h1 => ?_) (fun h1 => ?_)
  · obtain ⟨i, rfl⟩ : ∃ i, j = i + 1 := ⟨j - 1, by omega⟩
    refine T.as 5 (.int .i64 (i : Int)) rfl (by congr 1; omega) ?_
    refine T.skip ?_
    refine X.then ?_
    refine T.seq ?_
    refine T.block ?_
    refine T.seq ?_
    refine T.text [.l, .l, .l, .l] rfl ?_
    refine J.move rfl rfl ?_
    refine J.move rfl rfl ?_
    refine J.call0 (k := .l) trivial fok112 rfl rfl (fun w hw => Ra.digit w _ _ _ _ (hc0.ws hw (off_nil _))) ?_
    refine J.assign rfl rfl ?_
    refine J.end ?_
    refine X.then ?_
    refine T.seq ?_
    refine T.text [.l, .l, .l, .l] rfl ?_
    refine J.move rfl rfl ?_
    refine J.move rfl rfl ?_
    refine J.call0 (k := .l) trivial fok112 rfl rfl (fun w hw => Ra.digit w _ _ _ _ (hc1.ws hw (off_nil _))) ?_
    refine J.assign rfl rfl ?_
    refine J.end ?_
    refine X.then ?_
    refine T.seq ?_
    refine T.seq ?_
    refine T.text [.l, .l, .l] rfl ?_
    refine J.move rfl rfl ?_
    refine J.move rfl rfl ?_
    refine J.lss rfl rfl rfl rfl ?_
    refine J.end ?_
    refine X.then ?_
    refine T.cond_dec rfl (fun h2 => ?_) (fun h2 => ?_)
    · skip
      refine T.seq ?_
      refine T.text [.l] rfl ?_
      refine J.assign rfl rfl ?_
      refine J.end ?_
      refine X.then ?_
      refine T.ret ?_
      refine X.then_ret (X.inBlock_ret (X.then_ret (X.then_ret (X.inBlock_ret (X.then_ret ?_)))))
      exact X.ret1 rfl (RV.tmp rfl) (fun w' hw' => ⟨by rw [cmpN_lt (vl_lt_at i _ _ hx0 hx1 (by omega) (fun t ht => hz t ht))], hw'.sub (Sub.nil _)⟩)
    · skip
      refine T.skip ?_
      refine X.then ?_
      refine T.seq ?_
      refine T.text [.l, .l, .l] rfl ?_
      refine J.move rfl rfl ?_
      refine J.move rfl rfl ?_
      refine J.gtr rfl rfl rfl rfl ?_
      refine J.end ?_
      refine X.then ?_
      refine T.cond_dec rfl (fun h3 => ?_) (fun h3 => ?_)
      · skip
        refine T.seq ?_
        refine T.text [.l] rfl ?_
        refine J.assign rfl rfl ?_
        refine J.end ?_
        refine X.then ?_
        refine T.ret ?_
        refine X.inBlock_ret (X.then_ret (X.then_ret (X.inBlock_ret (X.then_ret ?_))))
        exact X.ret1 rfl (RV.tmp rfl) (fun w' hw' => ⟨by rw [cmpN_gt (vl_lt_at i _ _ hx1 hx0 (by omega) (fun t ht => (hz t ht).symm))], hw'.sub (Sub.nil _)⟩)
      · skip
        refine T.skip ?_
        refine X.inBlock (X.then ?_)
        refine T.text [.l, .l, .l] rfl ?_
        refine J.move rfl rfl ?_
        refine J.sub' rfl rfl rfl (by first | exact sub_nat _ 1 (by omega) | exact i64_ok _ (by omega) | exact rfl) ?_
        refine J.assign rfl rfl ?_
        refine J.end ?_
        exact X.round i ⟨by omega, fun t ht => (Nat.lt_or_ge i t).elim (fun h => hz t h) (fun h => by obtain rfl : t = i := (by omega); omega)⟩ (by first | omega | (dsimp only; omega)) (by repeat (first | exact Sub.nil _ | refine Sub.cons (by first | rfl | (rw [dgs_zero]; rfl) | (rw [List.drop_length]; rfl) | (simp; done) | (congr 2; omega) | (congr 3; omega)) ?_)) (by repeat (first | exact Sub.nil _ | refine Sub.cons (by first | rfl | (rw [dgs_zero]; rfl) | (rw [List.drop_length]; rfl) | (simp; done) | (congr 2; omega) | (congr 3; omega)) ?_))
  · skip
    refine T.exit ?_
    refine X.then_exit (X.then_exit (X.inBlock_eq (X.then ?_)))
    refine T.seq ?_
    refine T.text [.l] rfl ?_
    refine J.assign rfl rfl ?_
    refine J.end ?_
    refine X.then ?_
    refine T.ret ?_
    exact X.ret1 rfl (RV.tmp rfl) (fun w' hw' => ⟨by rw [cmpN_eq (vl_ext _ _ fun t => hz t (by omega))], hw'.sub (Sub.nil _)⟩)

theorem plus (w : World) (A0 : Option Addr) (c0 : Nat) (xs0 : List Nat) (hc0 : Cs w A0 (rowN .i64 xs0)) (A1 : Option Addr) (c1 : Nat) (xs1 : List Nat) (hc1 : Cs w A1 (rowN .i64 xs1)) (hx0 : Dg xs0) (hb0 : xs0.length ≤ 4294967296) (hx1 : Dg xs1) (hb1 : xs1.length ≤ 4294967296) :
    Calls Try.prog 102 [.slice A0 xs0.length c0, .slice A1 xs1.length c1].toArray w fun e w' => RowsPost w 3 .i64 (fun zs => Dg zs ∧ zs.length = max xs0.length xs1.length + 1 ∧ vl zs = vl xs0 + vl xs1) e w' := by
  refine calls_of_T [] 33 [] Try.func102 rfl Try.ntmps102 (by simp) (WS.refl _ _) ?_
  refine T.seq ?_
  refine T.text [.l] rfl ?_
  refine J.assign rfl rfl ?_
  refine J.end ?_
  refine X.then ?_
  refine T.seq ?_
  refine T.text [.l] rfl ?_
  refine J.assign rfl rfl ?_
  refine J.end ?_
  refine X.then ?_
  refine T.seq ?_
  refine T.text [.l] rfl ?_
  refine J.assign rfl rfl ?_
  refine J.end ?_
  refine X.then ?_
  refine T.seq ?_
  refine T.seq ?_
  refine T.text [.l] rfl ?_
  refine J.assign rfl rfl ?_
  refine J.end ?_
  refine X.then ?_
  refine T.block ?_
  refine T.addNil 5 3 ?_
  refine T.loop (ι := Nat × Nat × List Nat × RowIx) (fun ((i, c, zs, r) : Nat × Nat × List Nat × RowIx) => i ≤ max xs0.length xs1.length + 1 ∧ c ≤ 1 ∧ Dg zs ∧ zs.length = i ∧ vl zs + c * 256 ^ i = vl (xs0.take i) + vl (xs1.take i) ∧ r.Ok 1 zs.length) (fun ((i, c, zs, r) : Nat × Nat × List Nat × RowIx) => [(0, .slice A0 xs0.length c0), (1, .slice A1 xs1.length c1), (4, .slice none 0 0), (5, r.val zs.length), (6, .int .i64 (c : Int)), (7, .int .i64 (i : Int))]) (fun ((i, c, zs, r) : Nat × Nat × List Nat × RowIx) => [(5, r.ent 3 (rowN .i64 zs))]) (fun ((i, c, zs, r) : Nat × Nat × List Nat × RowIx) => max xs0.length xs1.length + 1 - i) ⟨0, 0, [], RowIx.nil⟩ ⟨Nat.zero_le _, Nat.zero_le _, Dg.nil, rfl, by simp [vl], RowIx.nil_ok 1⟩ (by repeat (first | exact Sub.nil _ | refine Sub.cons (by first | rfl | (rw [dgs_zero]; rfl) | (rw [List.drop_length]; rfl) | (simp; done) | (congr 2; omega) | (congr 3; omega)) ?_)) (by repeat (first | exact Sub.nil _ | refine Sub.cons (by first | rfl | (rw [dgs_zero]; rfl) | (rw [List.drop_length]; rfl) | (simp; done) | (congr 2; omega) | (congr 3; omega)) ?_)) ?_
  rintro ⟨i, c, zs, r⟩ ⟨hi, hcc, hz, hl, hv, hr⟩
  try dsimp only at *
  have hd0 := hx0.getD i
  have hd1 := hx1.getD i
  have hst := plus_step hx0 hx1 hz hl hcc hv
  refine T.seq ?_
  refine T.seq ?_
  refine T.text [.l, .l, .l, .l, .l] rfl ?_
  refine J.move rfl rfl ?_
  refine J.move rfl rfl ?_
  refine J.move rfl rfl ?_
  refine J.call0 (k := .l) trivial fok111 rfl rfl (fun w hw => Ra.longer w _ _ _ _ _ _ (hc0.ws hw (off_nil _)) (hc1.ws hw (off_nil _))) ?_
  refine J.leq rfl rfl rfl rfl ?_
  refine J.end ?_
  refine X.then ?_
  refine T.cond_dec rfl (fun h1 => ?_) (fun h1 => ?_)
  · skip
    refine T.skip ?_
    refine X.then ?_
    refine T.seq ?_
    refine T.block ?_
    refine T.seq ?_
    refine T.text [.l, .l, .l, .l, .l, .l, .l, .l, .l, .l] rfl ?_
    refine J.move rfl rfl ?_
    refine J.move rfl rfl ?_
    refine J.call0 (k := .l) trivial fok112 rfl rfl (fun w hw => Ra.digit w _ _ _ _ (hc0.ws hw (off_nil _))) ?_
    refine J.move rfl rfl ?_
    refine J.move rfl rfl ?_
    refine J.call0 (k := .l) trivial fok112 rfl rfl (fun w hw => Ra.digit w _ _ _ _ (hc1.ws hw (off_nil _))) ?_
    refine J.add rfl rfl rfl (by first | exact add_nat _ _ (by omega) | exact i64_ok _ (by omega) | exact rfl) ?_
    refine J.move rfl rfl ?_
    refine J.add rfl rfl rfl (by first | exact add_nat _ _ (by omega) | exact i64_ok _ (by omega) | exact rfl) ?_
    refine J.assign rfl rfl ?_
    refine J.end ?_
    refine X.then ?_
    refine T.seq ?_
    refine T.text [.l, .l, .l, .l, .l, .l] rfl ?_
    refine J.move rfl rfl ?_
    refine J.move rfl rfl ?_
    refine J.rem rfl rfl rfl (by omega) (by first | exact rem_nat _ 256 | exact rem_ok _ _ (by omega) | exact rfl) ?_
    refine J.lit1 28 rfl Try.underlying114 el3 (by decide) rfl [_] rfl rfl rfl (fun g28 hg28 => ?_)
    refine J.append 5 rfl Try.underlying114 el3 rfl hr (by rw [rowN_length, Nat.mul_one]) rfl rfl rfl (fun w hw => (hw.blkCs (k := 28) rfl)) (by first | exact rowN_one _ _ | (intro u hu; simp at hu; subst hu; rfl)) (by omega) (by unfold maxLen; omega) rfl (zs ++ [(xs0.getD i 0 + xs1.getD i 0 + c) % 256]).length (by simp) (rowN .i64 (zs ++ [(xs0.getD i 0 + xs1.getD i 0 + c) % 256])) (by rw [rowN_append]; rfl) (fun r29 hr29 => ?_)
    refine J.assign rfl rfl ?_
    refine J.end ?_
    refine X.then ?_
    refine T.text [.l, .l, .l] rfl ?_
    refine J.move rfl rfl ?_
    refine J.quo rfl rfl rfl (by omega) (by first | exact quo_nat _ 256 (by omega) | exact i64_quo_ok _ _ (by omega) | exact rfl) ?_
    refine J.assign rfl rfl ?_
    refine J.end ?_
    refine X.inBlock (X.then ?_)
    refine T.text [.l, .l, .l] rfl ?_
    refine J.move rfl rfl ?_
    refine J.add rfl rfl rfl (by first | exact add_nat _ 1 (by omega) | exact i64_ok _ (by omega) | exact rfl) ?_
    refine J.assign rfl rfl ?_
    refine J.end ?_
    exact X.round ⟨(i + 1), ((xs0.getD i 0 + xs1.getD i 0 + c) / 256), (zs ++ [(xs0.getD i 0 + xs1.getD i 0 + c) % 256]), r29⟩ ⟨by omega, hst.2.1, hst.1, by simp [hl], hst.2.2, hr29⟩ (by first | omega | (dsimp only; omega)) (by repeat (first | exact Sub.nil _ | refine Sub.cons (by first | rfl | (rw [dgs_zero]; rfl) | (rw [List.drop_length]; rfl) | (simp; done) | (congr 2; omega) | (congr 3; omega)) ?_)) (by repeat (first | exact Sub.nil _ | refine Sub.cons (by first | rfl | (rw [dgs_zero]; rfl) | (rw [List.drop_length]; rfl) | (simp; done) | (congr 2; omega) | (congr 3; omega)) ?_))
  · skip
    refine T.exit ?_
    refine X.then_exit (X.then_exit (X.inBlock_eq (X.then ?_)))
    refine T.seq ?_
    refine T.text [.l, .l] rfl ?_
    refine J.move rfl rfl ?_
    refine J.assign rfl rfl ?_
    refine J.end ?_
    refine X.then ?_
    refine T.ret ?_
    exact X.ret1 rfl (RV.tmp rfl) (fun w' hw' => RowsPost.mk' zs ⟨hz, by omega, by
          obtain rfl : i = max xs0.length xs1.length + 1 := by omega
          rw [vl_take_all _ _ (by omega), vl_take_all _ _ (by omega)] at hv
          have h3 := vl_lt hx0
          have h4 := vl_lt hx1
          have h5 : 256 ^ xs0.length ≤ 256 ^ max xs0.length xs1.length := Nat.pow_le_pow_right (by omega) (by omega)
          have h6 : 256 ^ xs1.length ≤ 256 ^ max xs0.length xs1.length := Nat.pow_le_pow_right (by omega) (by omega)
          rw [Nat.pow_succ] at hv
          rcases Nat.eq_zero_or_pos c with h7 | h7
          · subst h7; omega
          · obtain rfl : c = 1 := by omega
            omega⟩ r hr rfl hw' 5 rfl)

theorem cut (w : World) (A0 : Option Addr) (c0 : Nat) (xs0 : List Nat) (hc0 : Cs w A0 (rowN .i64 xs0)) (n : Nat) (hb0 : xs0.length ≤ 4294967296) :
    Calls Try.prog 103 [.slice A0 xs0.length c0, .int .i64 (n : Int)].toArray w fun e w' => RowsPost w 3 .i64 (fun zs => zs = xs0.take n) e w' := by
  refine calls_of_T [] 26 [] Try.func103 rfl Try.ntmps103 (by simp) (WS.refl _ _) ?_
  refine T.seq ?_
  refine T.text [.l] rfl ?_
  refine J.assign rfl rfl ?_
  refine J.end ?_
  refine X.then ?_
  refine T.seq ?_
  refine T.text [.l] rfl ?_
  refine J.assign rfl rfl ?_
  refine J.end ?_
  refine X.then ?_
  refine T.seq ?_
  refine T.seq ?_
  refine T.text [.l] rfl ?_
  refine J.assign rfl rfl ?_
  refine J.end ?_
  refine X.then ?_
  refine T.block ?_
  refine T.addNil 5 3 ?_
  refine T.loop (ι := Nat × RowIx) (fun ((i, r) : Nat × RowIx) => i ≤ n ∧ i ≤ xs0.length ∧ r.Ok 1 (xs0.take i).length) (fun ((i, r) : Nat × RowIx) => [(0, .slice A0 xs0.length c0), (1, .int .i64 (n : Int)), (4, .slice none 0 0), (5, r.val (xs0.take i).length), (6, .int .i64 (i : Int))]) (fun ((i, r) : Nat × RowIx) => [(5, r.ent 3 (rowN .i64 (xs0.take i)))]) (fun ((i, r) : Nat × RowIx) => n - i) ⟨0, RowIx.nil⟩ ⟨Nat.zero_le _, Nat.zero_le _, RowIx.nil_ok 1⟩ (by repeat (first | exact Sub.nil _ | refine Sub.cons (by first | rfl | (rw [dgs_zero]; rfl) | (rw [List.drop_length]; rfl) | (simp; done) | (congr 2; omega) | (congr 3; omega)) ?_)) (by repeat (first | exact Sub.nil _ | refine Sub.cons (by first | rfl | (rw [dgs_zero]; rfl) | (rw [List.drop_length]; rfl) | (simp; done) | (congr 2; omega) | (congr 3; omega)) ?_)) ?_
  rintro ⟨i, r⟩ ⟨hi, hi2, hr⟩
  try dsimp only at *
  have hlt : (xs0.take i).length = i := by rw [List.length_take]; omega
  refine T.seq ?_
  refine T.seq ?_
  refine T.text [.l, .l, .l, .l, .l, .l, .l, .l, .l] rfl ?_
  refine J.move rfl rfl ?_
  refine J.move rfl rfl ?_
  refine J.lss rfl rfl rfl rfl ?_
  refine J.move rfl rfl ?_
  refine J.split 10 rfl (fun h1 => ?_) (fun h1 => ?_)
  · skip
    refine J.yes rfl rfl ?_
    refine J.move rfl rfl ?_
    refine J.yes rfl rfl ?_
    refine J.move rfl rfl ?_
    refine J.yes rfl rfl ?_
    refine J.lenSl Try.underlying114 rfl rfl ?_
    refine J.yes rfl rfl ?_
    refine J.lss rfl rfl rfl rfl ?_
    refine J.pick_t rfl rfl rfl ?_
    refine J.end ?_
    refine X.then ?_
    refine T.cond_dec rfl (fun h2 => ?_) (fun h2 => ?_)
    · skip
      refine T.skip ?_
      refine X.then ?_
      refine T.seq ?_
      refine T.block ?_
      refine T.text [.l, .l, .l, .l, .l, .l, .l, .l] rfl ?_
      refine J.move rfl rfl ?_
      refine J.move rfl rfl ?_
      refine J.move rfl rfl ?_
      refine J.indexSlI sl114 rfl (Cs.isSomeN hc0 (by omega)) rfl (by omega) (by omega) (by first | exact Int.toNat_natCast _ | rfl) rfl ?_
      refine J.loadI1 (k := .l) trivial hc0 (off_nil _) rfl one3 (by first | rfl | with_reducible exact rowN_get1 _ _ _ (by omega) | with_reducible exact rowN_get _ _ _ (by omega) | exact rowN_get1 _ _ _ (by omega)) rfl ?_
      refine J.lit1 23 rfl Try.underlying114 el3 (by decide) rfl [_] rfl rfl rfl (fun g23 hg23 => ?_)
      have hts : xs0.take (i + 1) = xs0.take i ++ [xs0.getD i 0] := by rw [List.take_succ_eq_append_getElem (by omega)]; simp [List.getD, show i < xs0.length by omega]
      refine J.append 5 rfl Try.underlying114 el3 rfl hr (by rw [rowN_length, Nat.mul_one]) rfl rfl rfl (fun w hw => (hw.blkCs (k := 23) rfl)) (by first | exact rowN_one _ _ | (intro u hu; simp at hu; subst hu; rfl)) (by omega) (by unfold maxLen; omega) rfl (xs0.take (i + 1)).length (by rw [hts]; simp) (rowN .i64 (xs0.take (i + 1))) (by rw [hts, rowN_append]; rfl) (fun r24 hr24 => ?_)
      refine J.assign rfl rfl ?_
      refine J.end ?_
      refine X.inBlock (X.then ?_)
      refine T.text [.l, .l, .l] rfl ?_
      refine J.move rfl rfl ?_
      refine J.add rfl rfl rfl (by first | exact add_nat _ 1 (by omega) | exact i64_ok _ (by omega) | exact rfl) ?_
      refine J.assign rfl rfl ?_
      refine J.end ?_
      exact X.round ⟨(i + 1), r24⟩ ⟨by omega, by omega, hr24⟩ (by first | omega | (dsimp only; omega)) (by repeat (first | exact Sub.nil _ | refine Sub.cons (by first | rfl | (rw [dgs_zero]; rfl) | (rw [List.drop_length]; rfl) | (simp; done) | (congr 2; omega) | (congr 3; omega)) ?_)) (by repeat (first | exact Sub.nil _ | refine Sub.cons (by first | rfl | (rw [dgs_zero]; rfl) | (rw [List.drop_length]; rfl) | (simp; done) | (congr 2; omega) | (congr 3; omega)) ?_))
    · skip
      refine T.exit ?_
      refine X.then_exit (X.then_exit (X.inBlock_eq (X.then ?_)))
      refine T.seq ?_
      refine T.text [.l, .l] rfl ?_
      refine J.move rfl rfl ?_
      refine J.assign rfl rfl ?_
      refine J.end ?_
      refine X.then ?_
      refine T.ret ?_
      exact X.ret1 rfl (RV.tmp rfl) (fun w' hw' => RowsPost.mk' (xs0.take i) (by first | (rw [List.take_of_length_le (by omega), List.take_of_length_le (by omega)]; done) | (congr 1; omega)) r hr rfl hw' 5 rfl)
  · skip
    refine J.no rfl rfl rfl rfl ?_
    refine J.no rfl rfl rfl rfl ?_
    refine J.no rfl rfl rfl rfl ?_
    refine J.no rfl rfl rfl rfl ?_
    refine J.pick_f rfl rfl rfl ?_
    refine J.end ?_
    refine X.then ?_
    refine T.cond_false rfl ?_
    refine T.exit ?_
    refine X.then_exit (X.then_exit (X.inBlock_eq (X.then ?_)))
    refine T.seq ?_
    refine T.text [.l, .l] rfl ?_
    refine J.move rfl rfl ?_
    refine J.assign rfl rfl ?_
    refine J.end ?_
    refine X.then ?_
    refine T.ret ?_
    exact X.ret1 rfl (RV.tmp rfl) (fun w' hw' => RowsPost.mk' (xs0.take i) (by first | (rw [List.take_of_length_le (by omega), List.take_of_length_le (by omega)]; done) | (congr 1; omega)) r hr rfl hw' 5 rfl)

theorem full (w : World) :
    Calls Try.prog 105 [].toArray w fun e w' => RowsPost w 3 .i64 (fun zs => zs = List.replicate 32 0 ++ [1]) e w' := by
  refine calls_of_T [] 6 [] Try.func105 rfl Try.ntmps105 (by simp) (WS.refl _ _) ?_
  refine T.seq ?_
  refine T.text [.l] rfl ?_
  refine J.assign rfl rfl ?_
  refine J.end ?_
  refine X.then ?_
  refine T.seq ?_
  refine T.text [.l, .l] rfl ?_
  refine J.makeSlice 2 rfl (q := 33) (c0 := 33) Try.underlying114 el3 rfl rfl (by first | rfl | omega) (by first | rfl | omega) (by omega) (by decide) (by unfold maxLen; omega) rfl (fun g2 hg2 => ?_)
  refine J.assign rfl rfl ?_
  refine J.end ?_
  refine X.then ?_
  refine T.seq ?_
  refine T.text [.l, .l, .l] rfl ?_
  refine J.move rfl rfl ?_
  refine J.indexRow sl114 rfl rfl rfl (by omega) (by omega) (by rfl) rfl ?_
  refine J.store 2 rfl rfl rfl rfl [_] rfl sz3 (by rw [zeros_length]; decide) (by first | exact rowN_one _ _ | (simp; done) | (intro u hu; simp at hu; subst hu; rfl) | (intro u hu; simp at hu; rcases hu with rfl | rfl <;> rfl)) (by first | decide | exact Nat.zero_lt_succ _ | simp) trivial (rowN .i64 (List.replicate 32 0 ++ [1])) rfl ?_
  refine J.end ?_
  refine X.then ?_
  refine T.seq ?_
  refine T.text [.l, .l] rfl ?_
  refine J.move rfl rfl ?_
  refine J.assign rfl rfl ?_
  refine J.end ?_
  refine X.then ?_
  refine T.ret ?_
  exact X.ret1 rfl (RV.tmp rfl) (fun w' hw' => RowsPost.mk' (List.replicate 32 0 ++ [1]) rfl ⟨some g2, 33, []⟩ ⟨by simp, by simp [maxLen], by simp, fun h => by simp at h, fun u hu => by simp at hu⟩ rfl hw' 2 (by simp [RowIx.ent]; rfl))

theorem word (w : World) (A0 : Option Addr) (c0 : Nat) (xs0 : List Nat) (hc0 : Cs w A0 (rowN .i64 xs0)) (hx0 : Dg xs0) (hb0 : xs0.length ≤ 4294967296) :
    Calls Try.prog 106 [.slice A0 xs0.length c0].toArray w fun e w' => e = .returned (W (vl xs0)) ∧ WS w [] [] w' := by
  refine calls_of_T [] 23 [] Try.func106 rfl Try.ntmps106 (by simp) (WS.refl _ _) ?_
  refine T.seq ?_
  refine T.text [.l] rfl ?_
  refine J.alloc 2 rfl zero25 [.int .u64 0, .int .u64 0, .int .u64 0, .int .u64 0] rfl rfl (fun g2 hg2 => ?_)
  refine J.end ?_
  refine X.then ?_
  refine T.seq ?_
  refine T.text [.l] rfl ?_
  refine J.alloc 3 rfl zero25 [.int .u64 0, .int .u64 0, .int .u64 0, .int .u64 0] rfl rfl (fun g3 hg3 => ?_)
  refine J.end ?_
  refine X.then ?_
  refine T.seq ?_
  refine T.seq ?_
  refine T.text [.l] rfl ?_
  refine J.assign rfl rfl ?_
  refine J.end ?_
  refine X.then ?_
  refine T.block ?_
  refine T.loop (ι := Nat × List Nat) (fun ((j, ys) : Nat × List Nat) => j ≤ 32 ∧ ys.length = 4 ∧ ∀ q, q < 4 → ys.getD q 0 = limF (vl xs0) j q) (fun ((j, ys) : Nat × List Nat) => [(0, .slice A0 xs0.length c0), (2, .pointer (some ⟨g2, 0, none⟩)), (3, .pointer (some ⟨g3, 0, none⟩)), (4, .int .i64 ((j : Int) - 1))]) (fun ((j, ys) : Nat × List Nat) => [(2, ⟨some g2, 25, [.int .u64 0, .int .u64 0, .int .u64 0, .int .u64 0]⟩), (3, ⟨some g3, 25, rowN .u64 ys⟩)]) (fun ((j, ys) : Nat × List Nat) => j) ⟨32, [0, 0, 0, 0]⟩ ⟨Nat.le_refl _, rfl, fun q hq => by rw [limF_far _ _ _ (by omega)]; match q, hq with | 0, _ => rfl | 1, _ => rfl | 2, _ => rfl | 3, _ => rfl⟩ (by repeat (first | exact Sub.nil _ | refine Sub.cons (by first | rfl | (rw [dgs_zero]; rfl) | (rw [List.drop_length]; rfl) | (simp; done) | (congr 2; omega) | (congr 3; omega)) ?_)) (by repeat (first | exact Sub.nil _ | refine Sub.cons (by first | rfl | (rw [dgs_zero]; rfl) | (rw [List.drop_length]; rfl) | (simp; done) | (congr 2; omega) | (congr 3; omega)) ?_)) ?_
  rintro ⟨j, ys⟩ ⟨hj, hl, hp⟩
  try dsimp only at *
  refine T.seq ?_
  refine T.seq ?_
  refine T.text [.l, .l] rfl ?_
  refine J.move rfl rfl ?_
  refine J.geq rfl rfl rfl rfl ?_
  refine J.end ?_
  refine X.then ?_
  refine T.cond_dec rfl (fun h1 => ?_) (fun h1 => ?_)
  · obtain ⟨i, rfl⟩ : ∃ i, j = i + 1 := ⟨j - 1, by omega⟩
    refine T.as 4 (.int .i64 (i : Int)) rfl (by congr 1; omega) ?_
    have hq4 : i / 8 < 4 := by omega
    have hlt := limF_lt' (vl xs0) (i + 1) (i / 8) (by omega)
    rw [← hp _ hq4] at hlt
    have hdl := hx0.getD i
    refine T.skip ?_
    refine X.then ?_
    refine T.seq ?_
    refine T.block ?_
    refine T.draw [] [(0, .g), (1, .g), (2, .g), (3, .g), (4, .g), (5, .q), (6, .g), (7, .g), (8, .g), (9, .q), (10, .g), (11, .g), (12, .g), (13, .l)] (by kernel_rfl) (by kernel_rfl) ?_ (by repeat (first | exact Sub.nil _ | refine Sub.cons (by first | rfl | (rw [dgs_zero]; rfl) | (rw [List.drop_length]; rfl) | (simp; done) | (congr 2; omega) | (congr 3; omega)) ?_))
    refine J.move rfl rfl ?_
    refine J.quo rfl rfl rfl (by omega) (by first | exact quo_nat _ 8 (by omega) | exact i64_quo_ok _ _ (by omega) | exact rfl) ?_
    refine J.move rfl rfl ?_
    refine J.quo rfl rfl rfl (by omega) (by first | exact quo_nat _ 8 (by omega) | exact i64_quo_ok _ _ (by omega) | exact rfl) ?_
    refine J.indexArr arr25 rfl rfl (by omega) (by omega) (by first | exact Int.toNat_natCast _ | rfl) rfl ?_
    refine J.load1 (k := .q) trivial 3 rfl rfl one23 (by first | rfl | with_reducible exact rowN_get0 _ _ _ (by omega) | with_reducible exact rowN_get1 _ _ _ (by omega) | with_reducible exact rowN_get1s _ _ _ _ (by omega) | exact rowN_get1 _ _ _ (by omega) | exact rowN_get1s _ _ _ _ (by omega) | exact rowN_get0 _ _ _ (by omega)) rfl ?_
    refine J.mul rfl rfl rfl (by first | exact mulu_nat _ 256 (by omega) | exact u64_ok _ (by omega) | exact u64_wrap _) ?_
    refine J.move rfl rfl ?_
    refine J.move rfl rfl ?_
    refine J.call0 (k := .q) trivial fok112 rfl rfl (fun w hw => Ra.digit w _ _ _ _ (hc0.ws hw (off_nil _))) ?_
    refine J.conv (by rw [Try.underlying3]; rfl) Try.underlying23 rfl rfl (by first | exact wrapu_nat' _ (by omega) | exact wrapu_nat _ | exact u64_wrap _) ?_
    refine J.add rfl rfl rfl (by first | exact addu_nat _ _ (by omega) | exact u64_ok _ (by omega) | exact u64_wrap _) ?_
    refine J.indexArr arr25 rfl rfl (by omega) (by omega) (by first | exact Int.toNat_natCast _ | rfl) rfl ?_
    refine J.store 3 rfl rfl rfl rfl [.int .u64 ((ys.getD (i / 8) 0 * 256 + xs0.getD i 0 : Nat) : Int)] rfl sz23 (by rw [rowN_length, hl]; show _ + 1 ≤ 4; omega) (by first | exact rowN_one _ _ | (simp; done) | (intro u hu; simp at hu; subst hu; rfl) | (intro u hu; simp at hu; rcases hu with rfl | rfl <;> rfl)) (by first | decide | exact Nat.zero_lt_succ _ | simp) trivial (rowN .u64 (ys.set (i / 8) (ys.getD (i / 8) 0 * 256 + xs0.getD i 0))) (by rw [Nat.zero_add, Nat.mul_one]; exact putN' _ _ _ _ (by omega)) ?_
    refine J.end ?_
    refine X.inBlock (X.then ?_)
    refine T.text [.l, .l, .l] rfl ?_
    refine J.move rfl rfl ?_
    refine J.sub' rfl rfl rfl (by first | exact sub_nat _ 1 (by omega) | exact i64_ok _ (by omega) | exact rfl) ?_
    refine J.assign rfl rfl ?_
    refine J.end ?_
    exact X.round ⟨i, (ys.set (i / 8) (ys.getD (i / 8) 0 * 256 + xs0.getD i 0))⟩ ⟨by omega, by simp [hl], fun q hq => by
          rw [getD_set _ _ _ _ (by omega)]
          split
          · rename_i hiq; subst hiq; rw [limF_step _ _ _ (by omega) (by omega), ← vl_get hx0, ← hp _ hq]
          · rw [limF_other _ _ _ (by omega)]; exact hp q hq⟩ (by first | omega | (dsimp only; omega)) (by repeat (first | exact Sub.nil _ | refine Sub.cons (by first | rfl | (rw [dgs_zero]; rfl) | (rw [List.drop_length]; rfl) | (simp; done) | (congr 2; omega) | (congr 3; omega)) ?_)) (by repeat (first | exact Sub.nil _ | refine Sub.cons (by first | rfl | (rw [dgs_zero]; rfl) | (rw [List.drop_length]; rfl) | (simp; done) | (congr 2; omega) | (congr 3; omega)) ?_))
  · obtain rfl : j = 0 := by omega
    obtain rfl : ys = wl (vl xs0) := wl_of hl _ (fun q hq => by rw [hp q hq, limF_zero])
    refine T.exit ?_
    refine X.then_exit (X.then_exit (X.inBlock_eq (X.then ?_)))
    refine T.seq ?_
    refine T.text [.l, .l] rfl ?_
    refine J.loadN (k := .l) trivial 3 rfl rfl agg25 (wc (vl xs0)) rfl rfl rfl ?_
    refine J.store 2 rfl rfl rfl rfl (wc (vl xs0)) rfl sz25 (by first | decide | exact Nat.le_refl _ | exact Nat.le_of_ble_eq_true rfl | (simp [rowN]; done) | (simp [rowN]; omega)) (by first | exact rowN_one _ _ | (simp; done) | (intro u hu; simp at hu; subst hu; rfl) | (intro u hu; simp at hu; rcases hu with rfl | rfl <;> rfl)) (by first | decide | exact Nat.zero_lt_succ _ | simp) trivial (wc (vl xs0)) rfl ?_
    refine J.end ?_
    refine X.then ?_
    refine T.ret ?_
    exact X.ret1 rfl (RV.agg 2 rfl rfl agg25 (wc (vl xs0)) (by rfl) (by rfl) rfl) (fun w' hw' => ⟨rfl, hw'.sub (Sub.nil _)⟩)

theorem of (w : World) (x0 : Nat) :
    Calls Try.prog 88 [W x0].toArray w fun e w' => RowsPost w 3 .i64 (fun zs => zs = dgs x0 32) e w' := by
  refine calls_of_T [] 30 [] Try.func88 rfl Try.ntmps88 (by simp) (WS.refl _ _) ?_
  refine T.seq ?_
  refine T.text [.l, .l] rfl ?_
  refine J.box 1 rfl rfl (wc x0) rfl rfl (fun g1 hg1 => ?_)
  refine J.assign rfl rfl ?_
  refine J.end ?_
  refine X.then ?_
  refine T.seq ?_
  refine T.text [.l] rfl ?_
  refine J.assign rfl rfl ?_
  refine J.end ?_
  refine X.then ?_
  refine T.seq ?_
  refine T.seq ?_
  refine T.text [.l] rfl ?_
  refine J.assign rfl rfl ?_
  refine J.end ?_
  refine X.then ?_
  refine T.block ?_
  refine T.addNil 3 3 ?_
  refine T.loop (ι := Nat × RowIx) (fun ((i, r) : Nat × RowIx) => i ≤ 32 ∧ r.Ok 1 (dgs x0 i).length) (fun ((i, r) : Nat × RowIx) => [(0, W x0), (1, .pointer (some ⟨g1, 0, none⟩)), (2, .slice none 0 0), (3, r.val (dgs x0 i).length), (4, .int .i64 (i : Int))]) (fun ((i, r) : Nat × RowIx) => [(1, ⟨some g1, 25, (wc x0)⟩), (3, r.ent 3 (rowN .i64 (dgs x0 i)))]) (fun ((i, r) : Nat × RowIx) => 32 - i) ⟨0, RowIx.nil⟩ ⟨Nat.zero_le _, by rw [dgs_zero]; exact RowIx.nil_ok 1⟩ (by repeat (first | exact Sub.nil _ | refine Sub.cons (by first | rfl | (rw [dgs_zero]; rfl) | (rw [List.drop_length]; rfl) | (simp; done) | (congr 2; omega) | (congr 3; omega)) ?_)) (by repeat (first | exact Sub.nil _ | refine Sub.cons (by first | rfl | (rw [dgs_zero]; rfl) | (rw [List.drop_length]; rfl) | (simp; done) | (congr 2; omega) | (congr 3; omega)) ?_)) ?_
  rintro ⟨i, r⟩ ⟨hi, hr⟩
  try dsimp only at *
  have hll := lim_lt x0 (i / 8)
  have hdl := dgs_length x0 i
  refine T.seq ?_
  refine T.seq ?_
  refine T.text [.l, .l] rfl ?_
  refine J.move rfl rfl ?_
  refine J.lss rfl rfl rfl rfl ?_
  refine J.end ?_
  refine X.then ?_
  refine T.cond_dec rfl (fun h1 => ?_) (fun h1 => ?_)
  · skip
    refine T.skip ?_
    refine X.then ?_
    refine T.seq ?_
    refine T.block ?_
    refine T.seq ?_
    refine T.text [.l, .l, .l, .l, .l] rfl ?_
    refine J.move rfl rfl ?_
    refine J.quo rfl rfl rfl (by omega) (by first | exact quo_nat _ 8 (by omega) | exact i64_quo_ok _ _ (by omega) | exact rfl) ?_
    refine J.indexArr arr25 rfl rfl (by omega) (by omega) (by first | exact Int.toNat_natCast _ | rfl) rfl ?_
    refine J.load1 (k := .l) trivial 1 rfl rfl one23 (by exact rowN_get0 _ _ _ (by rw [wl_length]; omega)) rfl ?_
    refine J.as 14 (.int .u64 ((lim x0 (i / 8) : Nat) : Int)) rfl (by rw [wl_get _ _ (by omega)]) ?_
    refine J.assign rfl rfl ?_
    refine J.as 5 (.int .u64 ((lim x0 (i / 8) / 256 ^ 0 : Nat) : Int)) rfl (by rw [Nat.pow_zero, Nat.div_one]) ?_
    refine J.end ?_
    refine X.then ?_
    refine T.seq ?_
    refine T.seq ?_
    refine T.text [.l] rfl ?_
    refine J.assign rfl rfl ?_
    refine J.end ?_
    refine X.then ?_
    refine T.block ?_
    refine T.loop (ι := Nat) (fun (k : Nat) => k ≤ i % 8) (fun (k : Nat) => [(0, W x0), (1, .pointer (some ⟨g1, 0, none⟩)), (2, .slice none 0 0), (3, r.val (dgs x0 i).length), (4, .int .i64 (i : Int)), (7, .int .i64 (i : Int)), (11, .int .i64 (i : Int)), (5, .int .u64 ((lim x0 (i / 8) / 256 ^ k : Nat) : Int)), (6, .int .i64 (k : Int))]) (fun (k : Nat) => [(1, ⟨some g1, 25, (wc x0)⟩), (3, r.ent 3 (rowN .i64 (dgs x0 i)))]) (fun (k : Nat) => 8 - k) 0 (Nat.zero_le _) (by repeat (first | exact Sub.nil _ | refine Sub.cons (by first | rfl | (rw [dgs_zero]; rfl) | (rw [List.drop_length]; rfl) | (simp; done) | (congr 2; omega) | (congr 3; omega)) ?_)) (by repeat (first | exact Sub.nil _ | refine Sub.cons (by first | rfl | (rw [dgs_zero]; rfl) | (rw [List.drop_length]; rfl) | (simp; done) | (congr 2; omega) | (congr 3; omega)) ?_)) ?_
    rintro k hk
    have hlk : lim x0 (i / 8) / 256 ^ k ≤ lim x0 (i / 8) := Nat.div_le_self _ _
    refine T.seq ?_
    refine T.seq ?_
    refine T.text [.l, .l, .l, .l] rfl ?_
    refine J.move rfl rfl ?_
    refine J.move rfl rfl ?_
    refine J.rem rfl rfl rfl (by omega) (by first | exact rem_nat _ 8 | exact rem_ok _ _ (by omega) | exact rfl) ?_
    refine J.lss rfl rfl rfl rfl ?_
    refine J.end ?_
    refine X.then ?_
    refine T.cond_dec rfl (fun h2 => ?_) (fun h2 => ?_)
    · skip
      refine T.skip ?_
      refine X.then ?_
      refine T.seq ?_
      refine T.block ?_
      refine T.text [.l, .l, .l] rfl ?_
      refine J.move rfl rfl ?_
      refine J.quo rfl rfl rfl (by omega) (by first | exact quou_nat _ 256 (by omega) | exact u64_quo_ok _ _ (by omega) | exact rfl) ?_
      refine J.assign rfl rfl ?_
      refine J.as 5 (.int .u64 ((lim x0 (i / 8) / 256 ^ (k + 1) : Nat) : Int)) rfl (by rw [Nat.pow_succ, Nat.div_div_eq_div_mul]) ?_
      refine J.end ?_
      refine X.inBlock (X.then ?_)
      refine T.text [.l, .l, .l] rfl ?_
      refine J.move rfl rfl ?_
      refine J.add rfl rfl rfl (by first | exact add_nat _ 1 (by omega) | exact i64_ok _ (by omega) | exact rfl) ?_
      refine J.assign rfl rfl ?_
      refine J.end ?_
      exact X.round (k + 1) (by omega) (by first | omega | (dsimp only; omega)) (by repeat (first | exact Sub.nil _ | refine Sub.cons (by first | rfl | (rw [dgs_zero]; rfl) | (rw [List.drop_length]; rfl) | (simp; done) | (congr 2; omega) | (congr 3; omega)) ?_)) (by repeat (first | exact Sub.nil _ | refine Sub.cons (by first | rfl | (rw [dgs_zero]; rfl) | (rw [List.drop_length]; rfl) | (simp; done) | (congr 2; omega) | (congr 3; omega)) ?_))
    · obtain rfl : k = i % 8 := by omega
      have hmod : lim x0 (i / 8) / 256 ^ (i % 8) % 256 < 256 := Nat.mod_lt _ (by omega)
      refine T.exit ?_
      refine X.then_exit (X.then_exit (X.inBlock_eq (X.then ?_)))
      refine T.text [.l, .l, .l, .l, .l, .l, .l] rfl ?_
      refine J.move rfl rfl ?_
      refine J.move rfl rfl ?_
      refine J.rem rfl rfl rfl (by omega) (by first | exact rem_nat _ 256 | exact rem_ok _ _ (by omega) | exact rfl) ?_
      refine J.conv (by rw [Try.underlying23]; rfl) Try.underlying3 rfl rfl (by first | exact wrap_nat64 _ (by omega) | exact i64_ok _ (by omega) | exact rfl) ?_
      refine J.lit1 27 rfl Try.underlying114 el3 (by decide) rfl [_] rfl rfl rfl (fun g27 hg27 => ?_)
      refine J.append 3 rfl Try.underlying114 el3 rfl hr (by rw [rowN_length, Nat.mul_one]) rfl rfl rfl (fun w hw => (hw.blkCs (k := 27) rfl)) (by first | exact rowN_one _ _ | (intro u hu; simp at hu; subst hu; rfl)) (by omega) (by unfold maxLen; omega) rfl (dgs x0 (i + 1)).length (by rw [dgs_length, dgs_length]) (rowN .i64 (dgs x0 (i + 1))) (by rw [dgs_succ, rowN_append, ← lim_digit x0 i]; rfl) (fun r28 hr28 => ?_)
      refine J.assign rfl rfl ?_
      refine J.end ?_
      refine X.inBlock (X.then ?_)
      refine T.text [.l, .l, .l] rfl ?_
      refine J.move rfl rfl ?_
      refine J.add rfl rfl rfl (by first | exact add_nat _ 1 (by omega) | exact i64_ok _ (by omega) | exact rfl) ?_
      refine J.assign rfl rfl ?_
      refine J.end ?_
      exact X.round ⟨(i + 1), r28⟩ ⟨by omega, hr28⟩ (by first | omega | (dsimp only; omega)) (by repeat (first | exact Sub.nil _ | refine Sub.cons (by first | rfl | (rw [dgs_zero]; rfl) | (rw [List.drop_length]; rfl) | (simp; done) | (congr 2; omega) | (congr 3; omega)) ?_)) (by repeat (first | exact Sub.nil _ | refine Sub.cons (by first | rfl | (rw [dgs_zero]; rfl) | (rw [List.drop_length]; rfl) | (simp; done) | (congr 2; omega) | (congr 3; omega)) ?_))
  · skip
    refine T.exit ?_
    refine X.then_exit (X.then_exit (X.inBlock_eq (X.then ?_)))
    refine T.seq ?_
    refine T.text [.l, .l] rfl ?_
    refine J.move rfl rfl ?_
    refine J.assign rfl rfl ?_
    refine J.end ?_
    refine X.then ?_
    refine T.ret ?_
    exact X.ret1 rfl (RV.tmp rfl) (fun w' hw' => RowsPost.mk' (dgs x0 32) rfl r (by obtain rfl : i = 32 := (by omega); exact hr) (by obtain rfl : i = 32 := (by omega); rfl) hw' 3 (by obtain rfl : i = 32 := (by omega); rfl))

theorem Cmp (w : World) (x0 : Nat) (x1 : Nat) :
    Calls Try.prog 107 [W x0, W x1].toArray w fun e w' => e = .returned (.int .i64 (cmpN (x0 % 2 ^ 256) (x1 % 2 ^ 256))) ∧ WS w [] [] w' := by
  refine calls_of_T [] 10 [] Try.func107 rfl Try.ntmps107 (by simp) (WS.refl _ _) ?_
  refine T.seq ?_
  refine T.text [.l, .l, .l] rfl ?_
  refine J.box 2 rfl rfl (wc x0) rfl rfl (fun g2 hg2 => ?_)
  refine J.box 3 rfl rfl (wc x1) rfl rfl (fun g3 hg3 => ?_)
  refine J.assign rfl rfl ?_
  refine J.end ?_
  refine X.then ?_
  refine T.seq ?_
  refine T.draw [(3, ⟨some g3, 25, (wc x1)⟩)] [(0, .q), (2, .s), (1, .l), (3, .l), (4, .q), (5, .g)] (by kernel_rfl) (by kernel_rfl) ?_ (by repeat (first | exact Sub.nil _ | refine Sub.cons (by first | rfl | (rw [dgs_zero]; rfl) | (rw [List.drop_length]; rfl) | (simp; done) | (congr 2; omega) | (congr 3; omega)) ?_))
  refine J.loadN (k := .q) trivial 2 rfl rfl agg25 (wc x0) rfl rfl rfl ?_
  refine J.loadNs 3 rfl rfl agg25 (wc x1) rfl rfl rfl ?_
  refine J.callRow 6 rfl (t := 3) (kd := .i64) fok88 rfl rfl (fun w hw => Ra.of w _) (fun zs6 r6 hz6 hr6 => ?_)
  obtain ⟨hD6, hL6, hV6, hG6⟩ := of_facts hz6
  refine J.callRow 8 rfl (t := 3) (kd := .i64) fok88 rfl rfl (fun w hw => Ra.of w _) (fun zs8 r8 hz8 hr8 => ?_)
  obtain ⟨hD8, hL8, hV8, hG8⟩ := of_facts hz8
  refine J.call0 (k := .q) trivial fok104 rfl rfl (fun w hw => Ra.compare w _ _ _ (hw.rowCs (k := 6) rfl) _ _ _ (hw.rowCs (k := 8) rfl) (by assumption) (by omega) (by assumption) (by omega)) ?_
  refine J.assign rfl rfl ?_
  refine J.end ?_
  refine X.then ?_
  refine T.ret ?_
  exact X.ret1 rfl (RV.tmp rfl) (fun w' hw' => ⟨by rw [hV6, hV8], hw'.sub (Sub.nil _)⟩)

theorem Gt (w : World) (x0 : Nat) (x1 : Nat) :
    Calls Try.prog 80 [W x0, W x1].toArray w fun e w' => e = .returned (.bool (decide (x1 % 2 ^ 256 < x0 % 2 ^ 256))) ∧ WS w [] [] w' := by
  refine calls_of_T [] 9 [] Try.func80 rfl Try.ntmps80 (by simp) (WS.refl _ _) ?_
  refine T.seq ?_
  refine T.text [.l, .l, .l] rfl ?_
  refine J.box 2 rfl rfl (wc x0) rfl rfl (fun g2 hg2 => ?_)
  refine J.box 3 rfl rfl (wc x1) rfl rfl (fun g3 hg3 => ?_)
  refine J.assign rfl rfl ?_
  refine J.end ?_
  refine X.then ?_
  refine T.seq ?_
  refine T.text [.l, .l, .l, .l, .l] rfl ?_
  refine J.loadN (k := .l) trivial 2 rfl rfl agg25 (wc x0) rfl rfl rfl ?_
  refine J.loadN (k := .l) trivial 3 rfl rfl agg25 (wc x1) rfl rfl rfl ?_
  refine J.call0 (k := .l) trivial fok107 rfl rfl (fun w hw => Ra.Cmp w _ _) ?_
  refine J.gtr rfl rfl rfl rfl ?_
  refine J.assign rfl rfl ?_
  refine J.end ?_
  refine X.then ?_
  refine T.ret ?_
  exact X.ret1 rfl (RV.tmp rfl) (fun w' hw' => ⟨by congr 1; rw [cmpN_pos], hw'.sub (Sub.nil _)⟩)

theorem IsZero (w : World) (x0 : Nat) :
    Calls Try.prog 78 [W x0].toArray w fun e w' => e = .returned (.bool (decide (x0 % 2 ^ 256 = 0))) ∧ WS w [] [] w' := by
  refine calls_of_T [] 6 [] Try.func78 rfl Try.ntmps78 (by simp) (WS.refl _ _) ?_
  refine T.seq ?_
  refine T.text [.l, .l] rfl ?_
  refine J.box 1 rfl rfl (wc x0) rfl rfl (fun g1 hg1 => ?_)
  refine J.assign rfl rfl ?_
  refine J.end ?_
  refine X.then ?_
  refine T.seq ?_
  refine T.text [.l, .l, .l, .l] rfl ?_
  refine J.loadN (k := .l) trivial 1 rfl rfl agg25 (wc x0) rfl rfl rfl ?_
  refine J.callRow 4 rfl (t := 3) (kd := .i64) fok88 rfl rfl (fun w hw => Ra.of w _) (fun zs4 r4 hz4 hr4 => ?_)
  obtain ⟨hD4, hL4, hV4, hG4⟩ := of_facts hz4
  refine J.call0 (k := .l) trivial fok101 rfl rfl (fun w hw => Ra.none_ w _ _ _ (hw.rowCs (k := 4) rfl) (by first | assumption | omega)) ?_
  refine J.assign rfl rfl ?_
  refine J.end ?_
  refine X.then ?_
  refine T.ret ?_
  exact X.ret1 rfl (RV.tmp rfl) (fun w' hw' => ⟨by rw [hV4], hw'.sub (Sub.nil _)⟩)

theorem Size (w : World) (x0 : Nat) :
    Calls Try.prog 74 [W x0].toArray w fun e w' => e = .returned (.int .i64 (sizeN x0 : Int)) ∧ WS w [] [] w' := by
  refine calls_of_T [] 20 [] Try.func74 rfl Try.ntmps74 (by simp) (WS.refl _ _) ?_
  refine T.seq ?_
  refine T.text [.l, .l] rfl ?_
  refine J.box 1 rfl rfl (wc x0) rfl rfl (fun g1 hg1 => ?_)
  refine J.assign rfl rfl ?_
  refine J.end ?_
  refine X.then ?_
  refine T.seq ?_
  refine T.text [.l, .l, .l] rfl ?_
  refine J.loadN (k := .l) trivial 1 rfl rfl agg25 (wc x0) rfl rfl rfl ?_
  refine J.callRow 6 rfl (t := 3) (kd := .i64) fok88 rfl rfl (fun w hw => Ra.of w _) (fun zs6 r6 hz6 hr6 => ?_)
  obtain ⟨hD6, hL6, hV6, hG6⟩ := of_facts hz6
  refine J.assign rfl rfl ?_
  refine J.end ?_
  refine X.then ?_
  refine T.seq ?_
  refine T.text [.l] rfl ?_
  refine J.assign rfl rfl ?_
  refine J.end ?_
  refine X.then ?_
  refine T.seq ?_
  refine T.block ?_
  refine T.loop (ι := Nat) (fun (n : Nat) => n ≤ 32 ∧ ∀ t, n ≤ t → t < 32 → x0 / 256 ^ t % 256 = 0) (fun (n : Nat) => [(0, W x0), (1, .pointer (some ⟨g1, 0, none⟩)), (2, .int .i64 0), (5, W x0), (6, r6.val zs6.length), (3, r6.val zs6.length), (4, .int .i64 (n : Int))]) (fun (n : Nat) => [(1, ⟨some g1, 25, (wc x0)⟩), (6, r6.ent 3 (rowN .i64 zs6))]) (fun (n : Nat) => n) 32 ⟨Nat.le_refl _, fun t h1 h2 => by omega⟩ (by repeat (first | exact Sub.nil _ | refine Sub.cons (by first | rfl | (rw [dgs_zero]; rfl) | (rw [List.drop_length]; rfl) | (simp; done) | (congr 2; omega) | (congr 3; omega)) ?_)) (by repeat (first | exact Sub.nil _ | refine Sub.cons (by first | rfl | (rw [dgs_zero]; rfl) | (rw [List.drop_length]; rfl) | (simp; done) | (congr 2; omega) | (congr 3; omega)) ?_)) ?_
  rintro n ⟨hn, hz⟩
  refine T.seq ?_
  refine T.seq ?_
  refine T.text [.l, .l, .l, .l, .l, .l, .l, .l, .l, .l] rfl ?_
  refine J.move rfl rfl ?_
  refine J.gtr rfl rfl rfl rfl ?_
  refine J.move rfl rfl ?_
  refine J.split 9 rfl (fun h1 => ?_) (fun h1 => ?_)
  · obtain ⟨i, rfl⟩ : ∃ i, n = i + 1 := ⟨n - 1, by omega⟩
    refine J.yes rfl rfl ?_
    refine J.move rfl rfl ?_
    refine J.yes rfl rfl ?_
    refine J.move rfl rfl ?_
    refine J.yes rfl rfl ?_
    refine J.sub' rfl rfl rfl (by first | exact sub_nat _ 1 (by omega) | exact i64_ok _ (by omega) | exact rfl) ?_
    refine J.yes rfl rfl ?_
    refine J.indexRow sl114 rfl (hr6.some (by omega)) rfl (by omega) (by omega) (by first | exact Int.toNat_natCast _ | rfl) rfl ?_
    refine J.yes rfl rfl ?_
    refine J.load1 (k := .l) trivial 6 rfl rfl one3 (by first | rfl | with_reducible exact rowN_get0 _ _ _ (by omega) | with_reducible exact rowN_get1 _ _ _ (by omega) | with_reducible exact rowN_get1s _ _ _ _ (by omega) | exact rowN_get1 _ _ _ (by omega) | exact rowN_get1s _ _ _ _ (by omega) | exact rowN_get0 _ _ _ (by omega)) rfl ?_
    refine J.as 14 (.int .i64 ((x0 / 256 ^ i % 256 : Nat) : Int)) rfl (by rw [hG6 _ (by omega)]; rfl) ?_
    refine J.yes rfl rfl ?_
    refine J.eql rfl rfl rfl rfl ?_
    refine J.pick_t rfl rfl rfl ?_
    refine J.end ?_
    refine X.then ?_
    refine T.cond_dec rfl (fun h2 => ?_) (fun h2 => ?_)
    · skip
      refine T.skip ?_
      refine X.then ?_
      refine T.block ?_
      refine T.text [.l, .l, .l] rfl ?_
      refine J.move rfl rfl ?_
      refine J.sub' rfl rfl rfl (by first | exact sub_nat _ 1 (by omega) | exact i64_ok _ (by omega) | exact rfl) ?_
      refine J.assign rfl rfl ?_
      refine J.end ?_
      refine X.inBlock ?_
      exact X.round i ⟨by omega, fun t h3 h4 => (Nat.lt_or_ge i t).elim (fun h => hz t h h4) (fun h => by obtain rfl : t = i := (by omega); omega)⟩ (by first | omega | (dsimp only; omega)) (by repeat (first | exact Sub.nil _ | refine Sub.cons (by first | rfl | (rw [dgs_zero]; rfl) | (rw [List.drop_length]; rfl) | (simp; done) | (congr 2; omega) | (congr 3; omega)) ?_)) (by repeat (first | exact Sub.nil _ | refine Sub.cons (by first | rfl | (rw [dgs_zero]; rfl) | (rw [List.drop_length]; rfl) | (simp; done) | (congr 2; omega) | (congr 3; omega)) ?_))
    · skip
      refine T.exit ?_
      refine X.then_exit (X.then_exit (X.inBlock_eq (X.then ?_)))
      refine T.seq ?_
      refine T.text [.l, .l] rfl ?_
      refine J.move rfl rfl ?_
      refine J.assign rfl rfl ?_
      refine J.end ?_
      refine X.then ?_
      refine T.ret ?_
      exact X.ret1 rfl (RV.tmp rfl) (fun w' hw' => ⟨by rw [sizeN_of hn hz (by first | (intro h; omega) | (intro _; rw [Nat.add_sub_cancel]; omega))], hw'.sub (Sub.nil _)⟩)
  · skip
    refine J.no rfl rfl rfl rfl ?_
    refine J.no rfl rfl rfl rfl ?_
    refine J.no rfl rfl rfl rfl ?_
    refine J.no rfl rfl rfl rfl ?_
    refine J.no rfl rfl rfl rfl ?_
    refine J.no rfl rfl rfl rfl ?_
    refine J.pick_f rfl rfl rfl ?_
    refine J.end ?_
    refine X.then ?_
    refine T.cond_false rfl ?_
    refine T.exit ?_
    refine X.then_exit (X.then_exit (X.inBlock_eq (X.then ?_)))
    refine T.seq ?_
    refine T.text [.l, .l] rfl ?_
    refine J.move rfl rfl ?_
    refine J.assign rfl rfl ?_
    refine J.end ?_
    refine X.then ?_
    refine T.ret ?_
    exact X.ret1 rfl (RV.tmp rfl) (fun w' hw' => ⟨by rw [sizeN_of hn hz (by first | (intro h; omega) | (intro _; rw [Nat.add_sub_cancel]; omega))], hw'.sub (Sub.nil _)⟩)

theorem Uint (w : World) (x0 : Nat) :
    Calls Try.prog 54 [W x0].toArray w fun e w' => e = .returned (.tuple #[.int .u64 ((if sizeN x0 > 8 then 0 else lim x0 0 : Nat) : Int), .bool (decide (¬ sizeN x0 > 8))]) ∧ WS w [] [] w' := by
  refine calls_of_T [] 9 [] Try.func54 rfl Try.ntmps54 (by simp) (WS.refl _ _) ?_
  refine T.seq ?_
  refine T.text [.l, .l, .l] rfl ?_
  refine J.box 1 rfl rfl (wc x0) rfl rfl (fun g1 hg1 => ?_)
  refine J.assign rfl rfl ?_
  refine J.assign rfl rfl ?_
  refine J.end ?_
  refine X.then ?_
  refine T.seq ?_
  refine T.seq ?_
  refine T.text [.l, .l, .l] rfl ?_
  refine J.loadN (k := .l) trivial 1 rfl rfl agg25 (wc x0) rfl rfl rfl ?_
  refine J.call0 (k := .l) trivial fok74 rfl rfl (fun w hw => Ra.Size w _) ?_
  refine J.gtr rfl rfl rfl rfl ?_
  refine J.end ?_
  refine X.then ?_
  refine T.cond_dec rfl (fun h1 => ?_) (fun h1 => ?_)
  · skip
    refine T.seq ?_
    refine T.text [.l, .l] rfl ?_
    refine J.assign rfl rfl ?_
    refine J.assign rfl rfl ?_
    refine J.end ?_
    refine X.then ?_
    refine T.ret ?_
    refine X.then_ret ?_
    exact X.ret2 rfl (RV.tmp rfl) (RV.tmp rfl) (fun w' hw' => ⟨by rw [if_pos (by omega), decide_eq_false (by omega)]; rfl, hw'.sub (Sub.nil _)⟩)
  · skip
    refine T.skip ?_
    refine X.then ?_
    refine T.seq ?_
    refine T.text [.l, .l, .l, .l] rfl ?_
    refine J.indexArr arr25 rfl rfl (by omega) (by omega) (by rfl) rfl ?_
    refine J.load1 (k := .l) trivial 1 rfl rfl one23 rfl rfl ?_
    refine J.assign rfl rfl ?_
    refine J.assign rfl rfl ?_
    refine J.end ?_
    refine X.then ?_
    refine T.ret ?_
    exact X.ret2 rfl (RV.tmp rfl) (RV.tmp rfl) (fun w' hw' => ⟨by rw [if_neg (by omega), decide_eq_true (by omega)], hw'.sub (Sub.nil _)⟩)
end Go.Proofs.Ytpkjbeebhdgleaa.Ra
