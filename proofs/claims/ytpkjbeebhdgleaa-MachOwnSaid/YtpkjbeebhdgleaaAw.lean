/-
  Walks, printed by gen.py: what each function hands back, said of numbers.
  Conditions: those that each theorem bears.
-/
import Derived.Test.YtpkjbeebhdgleaaChecked
import Derived.Test.YtpkjbeebhdgleaaFj
import Derived.Test.YtpkjbeebhdgleaaSa
import Derived.Test.YtpkjbeebhdgleaaSb
set_option linter.unusedVariables false
set_option maxRecDepth 20000
namespace Go.Proofs.Ytpkjbeebhdgleaa.Aw
open Go Go.Fw

theorem sz25 : SizeT Try.prog 25 4 := (by unfold SizeT; kernel_rfl)
theorem sl32 : SlT Try.prog 32 25 4 := ⟨Try.underlying32, sz25⟩
theorem agg25 : AggT Try.prog 25 4 := ⟨⟨_, Try.underlying25, rfl⟩, by kernel_rfl⟩
theorem sz23 : SizeT Try.prog 23 1 := (by unfold SizeT; kernel_rfl)
theorem arr25 : ArrT Try.prog 25 4 23 1 := ⟨Try.underlying25, sz23⟩
theorem one23 : OneT Try.prog 23 := ⟨⟨_, Try.underlying23, rfl⟩, by kernel_rfl⟩
theorem eqw25 : EqT Try.prog 25 := ⟨⟨23, arr25, one23, Try.underlying23⟩, by kernel_rfl⟩
theorem sz3 : SizeT Try.prog 3 1 := (by unfold SizeT; kernel_rfl)
theorem fld52_0 : FldT Try.prog 52 0 3 0 0 := ⟨by kernel_rfl, sz3⟩
theorem one3 : OneT Try.prog 3 := ⟨⟨_, Try.underlying3, rfl⟩, by kernel_rfl⟩
theorem sz33 : SizeT Try.prog 33 1 := (by unfold SizeT; kernel_rfl)
theorem fld92_0 : FldT Try.prog 92 0 33 0 0 := ⟨by kernel_rfl, sz33⟩
theorem one33 : OneT Try.prog 33 := ⟨⟨_, Try.underlying33, rfl⟩, by kernel_rfl⟩
theorem fld52_5 : FldT Try.prog 52 5 25 5 3 := ⟨by kernel_rfl, sz25⟩
theorem sz90 : SizeT Try.prog 90 1 := (by unfold SizeT; kernel_rfl)
theorem fld92_1 : FldT Try.prog 92 1 90 1 0 := ⟨by kernel_rfl, sz90⟩
theorem one90 : OneT Try.prog 90 := ⟨⟨_, Try.underlying90, rfl⟩, by kernel_rfl⟩
theorem fok19 : FnOk Try.prog 19 := FnOk.mk' Try.func19 (by kernel_rfl) rfl
theorem fok94 : FnOk Try.prog 94 := FnOk.mk' Try.func94 (by kernel_rfl) rfl
theorem fok24 : FnOk Try.prog 24 := FnOk.mk' Try.func24 (by kernel_rfl) rfl
theorem zero25 : ZeroT Try.prog 25 (.agg ([.int .u64 0, .int .u64 0, .int .u64 0, .int .u64 0]).toArray) := (by unfold ZeroT; kernel_rfl)
theorem fok95 : FnOk Try.prog 95 := FnOk.mk' Try.func95 (by kernel_rfl) rfl
theorem fld52_2 : FldT Try.prog 52 2 3 2 0 := ⟨by kernel_rfl, sz3⟩
theorem fok30 : FnOk Try.prog 30 := FnOk.mk' Try.func30 (by kernel_rfl) rfl
theorem fok97 : FnOk Try.prog 97 := FnOk.mk' Try.func97 (by kernel_rfl) rfl
theorem fok27 : FnOk Try.prog 27 := FnOk.mk' Try.func27 (by kernel_rfl) rfl
theorem fok98 : FnOk Try.prog 98 := FnOk.mk' Try.func98 (by kernel_rfl) rfl
theorem fok23 : FnOk Try.prog 23 := FnOk.mk' Try.func23 (by kernel_rfl) rfl
theorem fok20 : FnOk Try.prog 20 := FnOk.mk' Try.func20 (by kernel_rfl) rfl
theorem fok57 : FnOk Try.prog 57 := FnOk.mk' Try.func57 (by kernel_rfl) rfl
theorem fok100 : FnOk Try.prog 100 := FnOk.mk' Try.func100 (by kernel_rfl) rfl
theorem fok22 : FnOk Try.prog 22 := FnOk.mk' Try.func22 (by kernel_rfl) rfl
theorem fok31 : FnOk Try.prog 31 := FnOk.mk' Try.func31 (by kernel_rfl) rfl
theorem fok89 : FnOk Try.prog 89 := FnOk.mk' Try.func89 (by kernel_rfl) rfl
theorem fok32 : FnOk Try.prog 32 := FnOk.mk' Try.func32 (by kernel_rfl) rfl
theorem fok90 : FnOk Try.prog 90 := FnOk.mk' Try.func90 (by kernel_rfl) rfl
theorem fok34 : FnOk Try.prog 34 := FnOk.mk' Try.func34 (by kernel_rfl) rfl
theorem fok92 : FnOk Try.prog 92 := FnOk.mk' Try.func92 (by kernel_rfl) rfl
theorem fld52_3 : FldT Try.prog 52 3 3 3 0 := ⟨by kernel_rfl, sz3⟩
theorem fok28 : FnOk Try.prog 28 := FnOk.mk' Try.func28 (by kernel_rfl) rfl
theorem fok93 : FnOk Try.prog 93 := FnOk.mk' Try.func93 (by kernel_rfl) rfl
theorem agg92 : AggT Try.prog 92 2 := ⟨⟨_, Try.underlying92, rfl⟩, by kernel_rfl⟩
theorem agg52 : AggT Try.prog 52 14 := ⟨⟨_, Try.underlying52, rfl⟩, by kernel_rfl⟩
theorem fok76 : FnOk Try.prog 76 := FnOk.mk' Try.func76 (by kernel_rfl) rfl
theorem fok77 : FnOk Try.prog 77 := FnOk.mk' Try.func77 (by kernel_rfl) rfl
theorem zero92 : ZeroT Try.prog 92 (.agg ([.pointer none, .pointer none]).toArray) := (by unfold ZeroT; kernel_rfl)
theorem fok18 : FnOk Try.prog 18 := FnOk.mk' Try.func18 (by kernel_rfl) rfl
theorem fok75 : FnOk Try.prog 75 := FnOk.mk' Try.func75 (by kernel_rfl) rfl
theorem sz92 : SizeT Try.prog 92 2 := (by unfold SizeT; kernel_rfl)
theorem fok55 : FnOk Try.prog 55 := FnOk.mk' Try.func55 (by kernel_rfl) rfl
theorem zero94 : ZeroT Try.prog 94 (.agg (([(.int .i64 0 : Value)] ++ [(.bool false : Value)] ++ List.replicate 3 (.int .i64 0 : Value) ++ List.replicate 8 (.int .u64 0 : Value) ++ [(.slice none 0 0 : Value)] ++ [(.int .i64 0 : Value)] ++ [(.bool false : Value)] ++ List.replicate 3 (.int .i64 0 : Value) ++ List.replicate 8 (.int .u64 0 : Value) ++ [(.slice none 0 0 : Value)] ++ [(.int .i64 0 : Value)] ++ [(.bool false : Value)] ++ List.replicate 3 (.int .i64 0 : Value) ++ List.replicate 8 (.int .u64 0 : Value) ++ [(.slice none 0 0 : Value)] ++ [(.int .i64 0 : Value)] ++ [(.bool false : Value)] ++ List.replicate 3 (.int .i64 0 : Value) ++ List.replicate 8 (.int .u64 0 : Value) ++ [(.slice none 0 0 : Value)] ++ [(.int .i64 0 : Value)] ++ [(.bool false : Value)] ++ List.replicate 3 (.int .i64 0 : Value) ++ List.replicate 8 (.int .u64 0 : Value) ++ [(.slice none 0 0 : Value)] ++ [(.int .i64 0 : Value)] ++ [(.bool false : Value)] ++ List.replicate 3 (.int .i64 0 : Value) ++ List.replicate 8 (.int .u64 0 : Value) ++ [(.slice none 0 0 : Value)] ++ [(.int .i64 0 : Value)] ++ [(.bool false : Value)] ++ List.replicate 3 (.int .i64 0 : Value) ++ List.replicate 8 (.int .u64 0 : Value) ++ [(.slice none 0 0 : Value)] ++ [(.int .i64 0 : Value)] ++ [(.bool false : Value)] ++ List.replicate 3 (.int .i64 0 : Value) ++ List.replicate 8 (.int .u64 0 : Value) ++ [(.slice none 0 0 : Value)] ++ [(.int .i64 0 : Value)] ++ [(.bool false : Value)] ++ List.replicate 3 (.int .i64 0 : Value) ++ List.replicate 8 (.int .u64 0 : Value) ++ [(.slice none 0 0 : Value)])).toArray) := (by unfold ZeroT; kernel_rfl)
theorem sz94 : SizeT Try.prog 94 126 := (by unfold SizeT; kernel_rfl)
theorem sz52 : SizeT Try.prog 52 14 := (by unfold SizeT; kernel_rfl)
theorem arr94 : ArrT Try.prog 94 9 52 14 := ⟨Try.underlying94, sz52⟩
theorem fok56 : FnOk Try.prog 56 := FnOk.mk' Try.func56 (by kernel_rfl) rfl

theorem sameWords (w : World) (A0 : Option Addr) (c0 : Nat) (xs0 : List Nat) (hc0 : Cs w A0 (rowW xs0)) (A1 : Option Addr) (c1 : Nat) (xs1 : List Nat) (hc1 : Cs w A1 (rowW xs1)) (heq : xs0 = xs1) (hb0 : xs0.length ≤ 9223372036854775807) :
    Calls Try.prog 22 [.slice A0 xs0.length c0, .slice A1 xs1.length c1].toArray w fun e w' => e = .returned (.bool true) ∧ WS w [] [] w' := by
  subst heq
  refine calls_of_T [] 26 [] Try.func22 rfl Try.ntmps22 (by simp) (WS.refl _ _) ?_
  refine T.seq ?_
  refine T.text [.l] rfl ?_
  refine J.assign rfl rfl ?_
  refine J.end ?_
  refine X.then ?_
  refine T.seq ?_
  refine T.seq ?_
  refine T.text [.l, .l, .l, .l, .l] rfl ?_
  refine J.move rfl rfl ?_
  refine J.lenSl Try.underlying32 rfl rfl ?_
  refine J.move rfl rfl ?_
  refine J.lenSl Try.underlying32 rfl rfl ?_
  refine J.neq rfl rfl rfl (decide_eq_false (fun h => h rfl)) ?_
  refine J.end ?_
  refine X.then ?_
  refine T.cond_false rfl ?_
  refine T.skip ?_
  refine X.then ?_
  refine T.seq ?_
  refine T.seq ?_
  refine T.text [.l] rfl ?_
  refine J.assign rfl rfl ?_
  refine J.end ?_
  refine X.then ?_
  refine T.block ?_
  refine T.loop (ι := Nat) (fun (i : Nat) => i ≤ xs0.length) (fun (i : Nat) => [(0, .slice A0 xs0.length c0), (1, .slice A1 xs0.length c1), (6, .slice A0 xs0.length c0), (7, .int .i64 ((xs0.length : Nat) : Int)), (8, .slice A1 xs0.length c1), (9, .int .i64 ((xs0.length : Nat) : Int)), (10, .bool false), (5, .int .i64 (i : Int))]) (fun (i : Nat) => []) (fun (i : Nat) => xs0.length - i) 0 (Nat.zero_le _) (by repeat (first | exact Sub.nil _ | refine Sub.cons (by first | rfl | (rw [dgs_zero]; rfl) | (rw [List.drop_length]; rfl) | (simp; done) | (congr 2; omega) | (congr 3; omega)) ?_)) (by repeat (first | exact Sub.nil _ | refine Sub.cons (by first | rfl | (rw [dgs_zero]; rfl) | (rw [List.drop_length]; rfl) | (simp; done) | (congr 2; omega) | (congr 3; omega)) ?_)) ?_
  rintro i hi
  refine T.seq ?_
  refine T.seq ?_
  refine T.text [.l, .l, .l, .l] rfl ?_
  refine J.move rfl rfl ?_
  refine J.move rfl rfl ?_
  refine J.lenSl Try.underlying32 rfl rfl ?_
  refine J.lss rfl rfl rfl rfl ?_
  refine J.end ?_
  refine X.then ?_
  refine T.cond_dec rfl (fun h1 => ?_) (fun h1 => ?_)
  · skip
    refine T.skip ?_
    refine X.then ?_
    refine T.seq ?_
    refine T.block ?_
    refine T.seq ?_
    refine T.draw [] [(0, .g), (1, .g), (2, .g), (3, .q), (4, .g), (5, .g), (6, .g), (7, .q), (8, .g)] (by kernel_rfl) (by kernel_rfl) ?_ (by repeat (first | exact Sub.nil _ | refine Sub.cons (by first | rfl | (rw [dgs_zero]; rfl) | (rw [List.drop_length]; rfl) | (simp; done) | (congr 2; omega) | (congr 3; omega)) ?_))
    refine J.move rfl rfl ?_
    refine J.move rfl rfl ?_
    refine J.indexSlI sl32 rfl (Cs.isSomeW hc0 (by omega)) rfl (by omega) (by omega) (by first | exact Int.toNat_natCast _ | rfl) rfl ?_
    refine J.loadIW (k := .q) trivial hc0 (off_nil _) rfl agg25 (by first | rfl | with_reducible exact rowW_seg0 _ _ _ (by omega) | with_reducible exact rowW_seg00 _ _ (by omega) | with_reducible exact rowW_segs _ _ _ (by omega) | with_reducible exact rowW_seg _ _ (by omega) | with_reducible exact rowW_segb _ _ _ (by omega) | exact rowW_seg _ _ (by omega) | exact rowW_segs _ _ _ (by omega)) rfl ?_
    refine J.move rfl rfl ?_
    refine J.move rfl rfl ?_
    refine J.indexSlI sl32 rfl (Cs.isSomeW hc1 (by omega)) rfl (by omega) (by omega) (by first | exact Int.toNat_natCast _ | rfl) rfl ?_
    refine J.loadIW (k := .q) trivial hc1 (off_nil _) rfl agg25 (by first | rfl | with_reducible exact rowW_seg0 _ _ _ (by omega) | with_reducible exact rowW_seg00 _ _ (by omega) | with_reducible exact rowW_segs _ _ _ (by omega) | with_reducible exact rowW_seg _ _ (by omega) | with_reducible exact rowW_segb _ _ _ (by omega) | exact rowW_seg _ _ (by omega) | exact rowW_segs _ _ _ (by omega)) rfl ?_
    refine J.neqW eqw25 rfl rfl rfl ?_
    refine J.as 25 (.bool false) rfl (by rw [decide_eq_false (fun h => h rfl)]) ?_
    refine J.end ?_
    refine X.then ?_
    refine T.cond_false rfl ?_
    refine T.skip ?_
    refine X.inBlock (X.then ?_)
    refine T.text [.l, .l, .l] rfl ?_
    refine J.move rfl rfl ?_
    refine J.add rfl rfl rfl (by first | exact add_nat _ 1 (by omega) | exact i64_ok _ (by omega) | exact rfl) ?_
    refine J.assign rfl rfl ?_
    refine J.end ?_
    exact X.round (i + 1) (by omega) (by first | omega | (dsimp only; omega)) (by repeat (first | exact Sub.nil _ | refine Sub.cons (by first | rfl | (rw [dgs_zero]; rfl) | (rw [List.drop_length]; rfl) | (simp; done) | (congr 2; omega) | (congr 3; omega)) ?_)) (by repeat (first | exact Sub.nil _ | refine Sub.cons (by first | rfl | (rw [dgs_zero]; rfl) | (rw [List.drop_length]; rfl) | (simp; done) | (congr 2; omega) | (congr 3; omega)) ?_))
  · skip
    refine T.exit ?_
    refine X.then_exit (X.then_exit (X.inBlock_eq (X.then ?_)))
    refine T.seq ?_
    refine T.text [.l] rfl ?_
    refine J.assign rfl rfl ?_
    refine J.end ?_
    refine X.then ?_
    refine T.ret ?_
    exact X.ret1 rfl (RV.tmp rfl) (fun w' hw' => ⟨rfl, hw'.sub (Sub.nil _)⟩)

set_option maxHeartbeats 1000000 in
theorem looked (w : World) (gS gR : Nat) (S : List Nat) (n : Int) (hS : S.length = 1024) (hn : -4611686018427387904 ≤ n ∧ n ≤ 4611686018427387904) (hat : Ent.At w ⟨some gS, 89, stkM S n⟩) (hat2 : Ent.At w ⟨some gR, 110, stkR S n⟩) (hne : gS ≠ gR) (k : Int) (b : Bool) (m q p : Int) (x y : Nat) (sl : Value) (hk : k = 1 ∨ k = 2 ∨ k = 4 ∨ k = 5 ∨ k = 12) (hm : -9223372036854775808 ≤ m ∧ m ≤ 9223372036854775807) (hq : -9223372036854775808 ≤ q ∧ q ≤ 9223372036854775807) :
    Calls Try.prog 77 [.agg [.pointer (some ⟨gS, 0, none⟩), .pointer (some ⟨gR, 0, none⟩)].toArray, .agg (opc k b m q p x y sl).toArray].toArray w fun e w' => StkPost w 89 110 gS gR (stepN k m n) e w' := by
  refine calls_of_T [gS, gR] 163 [(0, ⟨some gS, 89, stkM S n⟩), (1, ⟨some gR, 110, stkR S n⟩)] Try.func77 rfl Try.ntmps77 (by simp) (WS.two hat hat2 hne) ?_
  refine T.seq ?_
  refine T.text [.l, .l, .l] rfl ?_
  refine J.box 2 rfl rfl [.pointer (some ⟨gS, 0, none⟩), .pointer (some ⟨gR, 0, none⟩)] rfl rfl (fun g2 hg2 => ?_)
  refine J.box 3 rfl rfl (opc k b m q p x y sl) rfl rfl (fun g3 hg3 => ?_)
  refine J.assign rfl rfl ?_
  refine J.end ?_
  refine X.then ?_
  refine T.seq ?_
  refine T.seq ?_
  refine T.text [.l, .l] rfl ?_
  refine J.fieldAddr fld52_0 rfl rfl ?_
  refine J.load1 (k := .l) trivial 3 rfl rfl one3 (by first | rfl | with_reducible exact rowN_get0 _ _ _ (by omega) | with_reducible exact rowN_get1 _ _ _ (by omega) | with_reducible exact rowN_get1s _ _ _ _ (by omega) | exact rowN_get1 _ _ _ (by omega) | exact rowN_get1s _ _ _ _ (by omega) | exact rowN_get0 _ _ _ (by omega)) rfl ?_
  refine J.end ?_
  refine X.then ?_
  refine T.block ?_
  refine T.seq ?_
  refine T.text [.l, .l] rfl ?_
  refine J.eql rfl rfl rfl rfl ?_
  refine J.assign rfl rfl ?_
  refine J.end ?_
  refine X.then ?_
  refine T.cond_dec rfl (fun h1 => ?_) (fun h1 => ?_)
  · skip
    refine T.seq ?_
    refine T.draw [(2, ⟨some g2, 92, [.pointer (some ⟨gS, 0, none⟩), .pointer (some ⟨gR, 0, none⟩)]⟩), (3, ⟨some g3, 52, (opc k b m q p x y sl)⟩)] [(0, .g), (1, .q), (2, .g), (3, .q), (5, .g), (6, .s), (7, .g), (8, .s), (4, .l), (9, .l), (10, .g), (11, .g)] (by kernel_rfl) (by kernel_rfl) ?_ (by repeat (first | exact Sub.nil _ | refine Sub.cons (by first | rfl | (rw [dgs_zero]; rfl) | (rw [List.drop_length]; rfl) | (simp; done) | (congr 2; omega) | (congr 3; omega)) ?_))
    refine J.fieldAddr fld92_0 rfl rfl ?_
    refine J.load1 (k := .q) trivial 2 rfl rfl one33 (by first | rfl | with_reducible exact rowN_get0 _ _ _ (by omega) | with_reducible exact rowN_get1 _ _ _ (by omega) | with_reducible exact rowN_get1s _ _ _ _ (by omega) | exact rowN_get1 _ _ _ (by omega) | exact rowN_get1s _ _ _ _ (by omega) | exact rowN_get0 _ _ _ (by omega)) rfl ?_
    refine J.fieldAddr fld52_5 rfl rfl ?_
    refine J.loadN (k := .q) trivial 3 rfl rfl agg25 (wc x) rfl rfl rfl ?_
    refine J.fieldAddr fld92_1 rfl rfl ?_
    refine J.load1s 2 rfl rfl one90 (by first | rfl | with_reducible exact rowN_get0 _ _ _ (by omega) | with_reducible exact rowN_get1 _ _ _ (by omega) | with_reducible exact rowN_get1s _ _ _ _ (by omega) | exact rowN_get1 _ _ _ (by omega) | exact rowN_get1s _ _ _ _ (by omega) | exact rowN_get0 _ _ _ (by omega)) rfl ?_
    refine J.fieldAddr fld52_5 rfl rfl ?_
    refine J.loadNs 3 rfl rfl agg25 (wc x) rfl rfl rfl ?_
    refine J.callMut 0 rfl rfl fok19 rfl rfl (fun w hw => Sa.Push w _ _ _ (by first | assumption | (rw [List.length_set]; assumption) | (simp only [List.length_set, swp_length, pushS_length, dupS_length, swapS_length, exS_length, *]; done)) (by first | assumption | omega) (hw.live 0 _ rfl) _) ?_
    refine J.callMut 1 rfl rfl fok94 rfl rfl (fun w hw => Sb.Push w _ _ _ (by first | assumption | (rw [List.length_set]; assumption) | (simp only [List.length_set, swp_length, pushS_length, dupS_length, swapS_length, exS_length, *]; done)) (by first | assumption | omega) (hw.live 1 _ rfl) _) ?_
    refine J.eql rfl rfl rfl (decide_eq_true rfl) ?_
    refine J.assign rfl rfl ?_
    refine J.end ?_
    refine X.then ?_
    refine T.ret ?_
    refine X.inBlock_ret (X.then_ret ?_)
    exact X.ret1 rfl (RV.tmp rfl) (fun w' hw' => StkPost.mk' (pushS S n x) (pushS_length hS _ _) (by obtain rfl : k = 1 := (by omega); rfl) rfl hw' (n' := pushN n) rfl rfl)
  · skip
    refine T.seq ?_
    refine T.text [.l, .l] rfl ?_
    refine J.eql rfl rfl rfl rfl ?_
    refine J.assign rfl rfl ?_
    refine J.end ?_
    refine X.then ?_
    refine T.cond_dec rfl (fun h2 => ?_) (fun h2 => ?_)
    · skip
      refine T.seq ?_
      refine T.text [.l, .l, .l, .l, .l, .l, .l, .l, .l] rfl ?_
      refine J.fieldAddr fld92_0 rfl rfl ?_
      refine J.load1 (k := .l) trivial 2 rfl rfl one33 (by first | rfl | with_reducible exact rowN_get0 _ _ _ (by omega) | with_reducible exact rowN_get1 _ _ _ (by omega) | with_reducible exact rowN_get1s _ _ _ _ (by omega) | exact rowN_get1 _ _ _ (by omega) | exact rowN_get1s _ _ _ _ (by omega) | exact rowN_get0 _ _ _ (by omega)) rfl ?_
      refine J.callMut 0 rfl rfl fok24 rfl rfl (fun w hw => Sa.Pop w _ _ _ (by first | assumption | (rw [List.length_set]; assumption) | (simp only [List.length_set, swp_length, pushS_length, dupS_length, swapS_length, exS_length, *]; done)) (by first | assumption | omega) (hw.live 0 _ rfl)) ?_
      refine J.move rfl rfl ?_
      refine J.extract rfl rfl rfl ?_
      refine J.extract rfl rfl rfl ?_
      refine J.alloc 5 rfl zero25 [.int .u64 0, .int .u64 0, .int .u64 0, .int .u64 0] rfl rfl (fun g5 hg5 => ?_)
      refine J.store 5 rfl rfl rfl rfl (wc (popX S n)) rfl sz25 (by first | decide | exact Nat.le_refl _ | exact Nat.le_of_ble_eq_true rfl | (simp [rowN]; done) | (simp [rowN]; omega)) (by first | exact rowN_one _ _ | (simp; done) | (intro u hu; simp at hu; subst hu; rfl) | (intro u hu; simp at hu; rcases hu with rfl | rfl <;> rfl)) (by first | decide | exact Nat.zero_lt_succ _ | simp) trivial (wc (popX S n)) rfl ?_
      refine J.assign rfl rfl ?_
      refine J.end ?_
      refine X.then ?_
      refine T.seq ?_
      refine T.text [.l, .l, .l, .l, .l, .l, .l, .l, .l] rfl ?_
      refine J.fieldAddr fld92_1 rfl rfl ?_
      refine J.load1 (k := .l) trivial 2 rfl rfl one90 (by first | rfl | with_reducible exact rowN_get0 _ _ _ (by omega) | with_reducible exact rowN_get1 _ _ _ (by omega) | with_reducible exact rowN_get1s _ _ _ _ (by omega) | exact rowN_get1 _ _ _ (by omega) | exact rowN_get1s _ _ _ _ (by omega) | exact rowN_get0 _ _ _ (by omega)) rfl ?_
      refine J.callMut 1 rfl rfl fok95 rfl rfl (fun w hw => Sb.Pop w _ _ _ (by first | assumption | (rw [List.length_set]; assumption) | (simp only [List.length_set, swp_length, pushS_length, dupS_length, swapS_length, exS_length, *]; done)) (by first | assumption | omega) (hw.live 1 _ rfl)) ?_
      refine J.move rfl rfl ?_
      refine J.extract rfl rfl rfl ?_
      refine J.extract rfl rfl rfl ?_
      refine J.alloc 7 rfl zero25 [.int .u64 0, .int .u64 0, .int .u64 0, .int .u64 0] rfl rfl (fun g7 hg7 => ?_)
      refine J.store 7 rfl rfl rfl rfl (wc (popX S n)) rfl sz25 (by first | decide | exact Nat.le_refl _ | exact Nat.le_of_ble_eq_true rfl | (simp [rowN]; done) | (simp [rowN]; omega)) (by first | exact rowN_one _ _ | (simp; done) | (intro u hu; simp at hu; subst hu; rfl) | (intro u hu; simp at hu; rcases hu with rfl | rfl <;> rfl)) (by first | decide | exact Nat.zero_lt_succ _ | simp) trivial (wc (popX S n)) rfl ?_
      refine J.assign rfl rfl ?_
      refine J.end ?_
      refine X.then ?_
      refine T.seq ?_
      refine T.text [.l, .l, .l, .l, .l, .l, .l, .l, .l] rfl ?_
      refine J.loadN (k := .l) trivial 5 rfl rfl agg25 (wc (popX S n)) rfl rfl rfl ?_
      refine J.loadN (k := .l) trivial 7 rfl rfl agg25 (wc (popX S n)) rfl rfl rfl ?_
      refine J.eqW eqw25 rfl rfl rfl ?_
      refine J.as 46 (.bool true) rfl (by rw [decide_eq_true rfl]) ?_
      refine J.move rfl rfl ?_
      refine J.yes rfl rfl ?_
      refine J.move rfl rfl ?_
      refine J.yes rfl rfl ?_
      refine J.move rfl rfl ?_
      refine J.yes rfl rfl ?_
      refine J.eql rfl rfl rfl (decide_eq_true rfl) ?_
      refine J.pick_t rfl rfl rfl ?_
      refine J.assign rfl rfl ?_
      refine J.end ?_
      refine X.then ?_
      refine T.ret ?_
      refine X.inBlock_ret (X.then_ret ?_)
      exact X.ret1 rfl (RV.tmp rfl) (fun w' hw' => StkPost.mk' (S) hS (by obtain rfl : k = 2 := (by omega); rfl) rfl hw' (n' := popN n) rfl rfl)
    · skip
      refine T.seq ?_
      refine T.text [.l, .l] rfl ?_
      refine J.eql rfl rfl rfl rfl ?_
      refine J.assign rfl rfl ?_
      refine J.end ?_
      refine X.then ?_
      refine T.cond_dec rfl (fun h3 => ?_) (fun h3 => ?_)
      · exact absurd h3 (by omega)
      · skip
        refine T.seq ?_
        refine T.text [.l, .l] rfl ?_
        refine J.eql rfl rfl rfl rfl ?_
        refine J.assign rfl rfl ?_
        refine J.end ?_
        refine X.then ?_
        refine T.cond_dec rfl (fun h4 => ?_) (fun h4 => ?_)
        · skip
          refine T.seq ?_
          refine T.draw [(2, ⟨some g2, 92, [.pointer (some ⟨gS, 0, none⟩), .pointer (some ⟨gR, 0, none⟩)]⟩), (3, ⟨some g3, 52, (opc k b m q p x y sl)⟩)] [(0, .g), (1, .q), (2, .g), (3, .q), (5, .g), (6, .s), (7, .g), (8, .s), (4, .l), (9, .l), (10, .g), (11, .g)] (by kernel_rfl) (by kernel_rfl) ?_ (by repeat (first | exact Sub.nil _ | refine Sub.cons (by first | rfl | (rw [dgs_zero]; rfl) | (rw [List.drop_length]; rfl) | (simp; done) | (congr 2; omega) | (congr 3; omega)) ?_))
          refine J.fieldAddr fld92_0 rfl rfl ?_
          refine J.load1 (k := .q) trivial 2 rfl rfl one33 (by first | rfl | with_reducible exact rowN_get0 _ _ _ (by omega) | with_reducible exact rowN_get1 _ _ _ (by omega) | with_reducible exact rowN_get1s _ _ _ _ (by omega) | exact rowN_get1 _ _ _ (by omega) | exact rowN_get1s _ _ _ _ (by omega) | exact rowN_get0 _ _ _ (by omega)) rfl ?_
          refine J.fieldAddr fld52_2 rfl rfl ?_
          refine J.load1 (k := .q) trivial 3 rfl rfl one3 (by first | rfl | with_reducible exact rowN_get0 _ _ _ (by omega) | with_reducible exact rowN_get1 _ _ _ (by omega) | with_reducible exact rowN_get1s _ _ _ _ (by omega) | exact rowN_get1 _ _ _ (by omega) | exact rowN_get1s _ _ _ _ (by omega) | exact rowN_get0 _ _ _ (by omega)) rfl ?_
          refine J.fieldAddr fld92_1 rfl rfl ?_
          refine J.load1s 2 rfl rfl one90 (by first | rfl | with_reducible exact rowN_get0 _ _ _ (by omega) | with_reducible exact rowN_get1 _ _ _ (by omega) | with_reducible exact rowN_get1s _ _ _ _ (by omega) | exact rowN_get1 _ _ _ (by omega) | exact rowN_get1s _ _ _ _ (by omega) | exact rowN_get0 _ _ _ (by omega)) rfl ?_
          refine J.fieldAddr fld52_2 rfl rfl ?_
          refine J.load1s 3 rfl rfl one3 (by first | rfl | with_reducible exact rowN_get0 _ _ _ (by omega) | with_reducible exact rowN_get1 _ _ _ (by omega) | with_reducible exact rowN_get1s _ _ _ _ (by omega) | exact rowN_get1 _ _ _ (by omega) | exact rowN_get1s _ _ _ _ (by omega) | exact rowN_get0 _ _ _ (by omega)) rfl ?_
          refine J.callMut 0 rfl rfl fok30 rfl rfl (fun w hw => Sa.Dup w _ _ _ (by first | assumption | (rw [List.length_set]; assumption) | (simp only [List.length_set, swp_length, pushS_length, dupS_length, swapS_length, exS_length, *]; done)) (by first | assumption | omega) (hw.live 0 _ rfl) _ (by omega)) ?_
          refine J.callMut 1 rfl rfl fok97 rfl rfl (fun w hw => Sb.Dup w _ _ _ (by first | assumption | (rw [List.length_set]; assumption) | (simp only [List.length_set, swp_length, pushS_length, dupS_length, swapS_length, exS_length, *]; done)) (by first | assumption | omega) (hw.live 1 _ rfl) _ (by omega)) ?_
          refine J.eql rfl rfl rfl (decide_eq_true rfl) ?_
          refine J.assign rfl rfl ?_
          refine J.end ?_
          refine X.then ?_
          refine T.ret ?_
          refine X.inBlock_ret (X.then_ret ?_)
          exact X.ret1 rfl (RV.tmp rfl) (fun w' hw' => StkPost.mk' (dupS S n m) (dupS_length hS _ _) (by obtain rfl : k = 4 := (by omega); rfl) rfl hw' (n' := dupN n m) rfl rfl)
        · skip
          refine T.seq ?_
          refine T.text [.l, .l] rfl ?_
          refine J.eql rfl rfl rfl rfl ?_
          refine J.assign rfl rfl ?_
          refine J.end ?_
          refine X.then ?_
          refine T.cond_dec rfl (fun h5 => ?_) (fun h5 => ?_)
          · skip
            refine T.seq ?_
            refine T.draw [(2, ⟨some g2, 92, [.pointer (some ⟨gS, 0, none⟩), .pointer (some ⟨gR, 0, none⟩)]⟩), (3, ⟨some g3, 52, (opc k b m q p x y sl)⟩)] [(0, .g), (1, .q), (2, .g), (3, .q), (5, .g), (6, .s), (7, .g), (8, .s), (4, .l), (9, .l), (10, .g), (11, .g)] (by kernel_rfl) (by kernel_rfl) ?_ (by repeat (first | exact Sub.nil _ | refine Sub.cons (by first | rfl | (rw [dgs_zero]; rfl) | (rw [List.drop_length]; rfl) | (simp; done) | (congr 2; omega) | (congr 3; omega)) ?_))
            refine J.fieldAddr fld92_0 rfl rfl ?_
            refine J.load1 (k := .q) trivial 2 rfl rfl one33 (by first | rfl | with_reducible exact rowN_get0 _ _ _ (by omega) | with_reducible exact rowN_get1 _ _ _ (by omega) | with_reducible exact rowN_get1s _ _ _ _ (by omega) | exact rowN_get1 _ _ _ (by omega) | exact rowN_get1s _ _ _ _ (by omega) | exact rowN_get0 _ _ _ (by omega)) rfl ?_
            refine J.fieldAddr fld52_2 rfl rfl ?_
            refine J.load1 (k := .q) trivial 3 rfl rfl one3 (by first | rfl | with_reducible exact rowN_get0 _ _ _ (by omega) | with_reducible exact rowN_get1 _ _ _ (by omega) | with_reducible exact rowN_get1s _ _ _ _ (by omega) | exact rowN_get1 _ _ _ (by omega) | exact rowN_get1s _ _ _ _ (by omega) | exact rowN_get0 _ _ _ (by omega)) rfl ?_
            refine J.fieldAddr fld92_1 rfl rfl ?_
            refine J.load1s 2 rfl rfl one90 (by first | rfl | with_reducible exact rowN_get0 _ _ _ (by omega) | with_reducible exact rowN_get1 _ _ _ (by omega) | with_reducible exact rowN_get1s _ _ _ _ (by omega) | exact rowN_get1 _ _ _ (by omega) | exact rowN_get1s _ _ _ _ (by omega) | exact rowN_get0 _ _ _ (by omega)) rfl ?_
            refine J.fieldAddr fld52_2 rfl rfl ?_
            refine J.load1s 3 rfl rfl one3 (by first | rfl | with_reducible exact rowN_get0 _ _ _ (by omega) | with_reducible exact rowN_get1 _ _ _ (by omega) | with_reducible exact rowN_get1s _ _ _ _ (by omega) | exact rowN_get1 _ _ _ (by omega) | exact rowN_get1s _ _ _ _ (by omega) | exact rowN_get0 _ _ _ (by omega)) rfl ?_
            refine J.callMut 0 rfl rfl fok27 rfl rfl (fun w hw => Sa.Swap w _ _ _ (by first | assumption | (rw [List.length_set]; assumption) | (simp only [List.length_set, swp_length, pushS_length, dupS_length, swapS_length, exS_length, *]; done)) (by first | assumption | omega) (hw.live 0 _ rfl) _ (by omega)) ?_
            refine J.callMut 1 rfl rfl fok98 rfl rfl (fun w hw => Sb.Swap w _ _ _ (by first | assumption | (rw [List.length_set]; assumption) | (simp only [List.length_set, swp_length, pushS_length, dupS_length, swapS_length, exS_length, *]; done)) (by first | assumption | omega) (hw.live 1 _ rfl) _ (by omega)) ?_
            refine J.eql rfl rfl rfl (decide_eq_true rfl) ?_
            refine J.assign rfl rfl ?_
            refine J.end ?_
            refine X.then ?_
            refine T.ret ?_
            refine X.inBlock_ret (X.then_ret ?_)
            exact X.ret1 rfl (RV.tmp rfl) (fun w' hw' => StkPost.mk' (swapS S n m) (swapS_length hS _ _) (by obtain rfl : k = 5 := (by omega); rfl) rfl hw' (n' := n) rfl rfl)
          · skip
            refine T.seq ?_
            refine T.text [.l, .l] rfl ?_
            refine J.eql rfl rfl rfl rfl ?_
            refine J.assign rfl rfl ?_
            refine J.end ?_
            refine X.then ?_
            refine T.cond_dec rfl (fun h6 => ?_) (fun h6 => ?_)
            · exact absurd h6 (by omega)
            · skip
              refine T.seq ?_
              refine T.text [.l, .l] rfl ?_
              refine J.eql rfl rfl rfl rfl ?_
              refine J.assign rfl rfl ?_
              refine J.end ?_
              refine X.then ?_
              refine T.cond_dec rfl (fun h7 => ?_) (fun h7 => ?_)
              · exact absurd h7 (by omega)
              · skip
                refine T.seq ?_
                refine T.text [.l, .l] rfl ?_
                refine J.eql rfl rfl rfl rfl ?_
                refine J.assign rfl rfl ?_
                refine J.end ?_
                refine X.then ?_
                refine T.cond_dec rfl (fun h8 => ?_) (fun h8 => ?_)
                · skip
                  refine T.seq ?_
                  refine T.text [.l, .l, .l, .l] rfl ?_
                  refine J.fieldAddr fld92_0 rfl rfl ?_
                  refine J.load1 (k := .l) trivial 2 rfl rfl one33 (by first | rfl | with_reducible exact rowN_get0 _ _ _ (by omega) | with_reducible exact rowN_get1 _ _ _ (by omega) | with_reducible exact rowN_get1s _ _ _ _ (by omega) | exact rowN_get1 _ _ _ (by omega) | exact rowN_get1s _ _ _ _ (by omega) | exact rowN_get0 _ _ _ (by omega)) rfl ?_
                  refine J.callRowW 148 rfl (t := 25) fok23 rfl rfl (fun w hw => Sa.Words w _ _ _ (by first | assumption | (rw [List.length_set]; assumption) | (simp only [List.length_set, swp_length, pushS_length, dupS_length, swapS_length, exS_length, *]; done)) (by first | assumption | omega) (hw.blkCs (k := 0) rfl)) (fun zs148 r148 hz148 hr148 => ?_)
                  refine J.assign rfl rfl ?_
                  refine J.end ?_
                  refine X.then ?_
                  refine T.seq ?_
                  refine T.draw [] [(0, .g), (1, .q), (2, .q), (3, .g), (4, .q), (5, .q), (6, .g), (7, .g), (8, .g), (9, .g), (10, .q), (11, .l), (12, .q), (13, .g), (14, .g)] (by kernel_rfl) (by kernel_rfl) ?_ (by repeat (first | exact Sub.nil _ | refine Sub.cons (by first | rfl | (rw [dgs_zero]; rfl) | (rw [List.drop_length]; rfl) | (simp; done) | (congr 2; omega) | (congr 3; omega)) ?_))
                  refine J.fieldAddr fld92_0 rfl rfl ?_
                  refine J.load1 (k := .q) trivial 2 rfl rfl one33 (by first | rfl | with_reducible exact rowN_get0 _ _ _ (by omega) | with_reducible exact rowN_get1 _ _ _ (by omega) | with_reducible exact rowN_get1s _ _ _ _ (by omega) | exact rowN_get1 _ _ _ (by omega) | exact rowN_get1s _ _ _ _ (by omega) | exact rowN_get0 _ _ _ (by omega)) rfl ?_
                  refine J.call0 (k := .q) trivial fok20 rfl rfl (fun w hw => Sa.Len w _ _ _ (by first | assumption | (rw [List.length_set]; assumption) | (simp only [List.length_set, swp_length, pushS_length, dupS_length, swapS_length, exS_length, *]; done)) (by first | assumption | omega) (hw.blkCs (k := 0) rfl)) ?_
                  refine J.fieldAddr fld92_1 rfl rfl ?_
                  refine J.load1 (k := .q) trivial 2 rfl rfl one90 (by first | rfl | with_reducible exact rowN_get0 _ _ _ (by omega) | with_reducible exact rowN_get1 _ _ _ (by omega) | with_reducible exact rowN_get1s _ _ _ _ (by omega) | exact rowN_get1 _ _ _ (by omega) | exact rowN_get1s _ _ _ _ (by omega) | exact rowN_get0 _ _ _ (by omega)) rfl ?_
                  refine J.call0 (k := .q) trivial fok57 rfl rfl (fun w hw => Sb.Len w _ _ _ (by first | assumption | (rw [List.length_set]; assumption) | (simp only [List.length_set, swp_length, pushS_length, dupS_length, swapS_length, exS_length, *]; done)) (by first | assumption | omega) (hw.blkCs (k := 1) rfl)) ?_
                  refine J.eql rfl rfl rfl (decide_eq_true rfl) ?_
                  refine J.move rfl rfl ?_
                  refine J.yes rfl rfl ?_
                  refine J.move rfl rfl ?_
                  refine J.yes rfl rfl ?_
                  refine J.fieldAddr fld92_1 rfl rfl ?_
                  refine J.yes rfl rfl ?_
                  refine J.load1 (k := .q) trivial 2 rfl rfl one90 (by first | rfl | with_reducible exact rowN_get0 _ _ _ (by omega) | with_reducible exact rowN_get1 _ _ _ (by omega) | with_reducible exact rowN_get1s _ _ _ _ (by omega) | exact rowN_get1 _ _ _ (by omega) | exact rowN_get1s _ _ _ _ (by omega) | exact rowN_get0 _ _ _ (by omega)) rfl ?_
                  refine J.yes rfl rfl ?_
                  refine J.callRowW 160 rfl (t := 25) fok100 rfl rfl (fun w hw => Sb.Words w _ _ _ (by first | assumption | (rw [List.length_set]; assumption) | (simp only [List.length_set, swp_length, pushS_length, dupS_length, swapS_length, exS_length, *]; done)) (by first | assumption | omega) (hw.blkCs (k := 1) rfl)) (fun zs160 r160 hz160 hr160 => ?_)
                  refine J.yes rfl rfl ?_
                  refine J.call0 (k := .q) trivial fok22 rfl rfl (fun w hw => Aw.sameWords w _ _ _ (hw.rowCs (k := 148) rfl) _ _ _ (hw.rowCs (k := 160) rfl) (by rw [hz148, hz160]) (by rw [hz148, wordsS_length]; omega)) ?_
                  refine J.pick_t rfl rfl rfl ?_
                  refine J.assign rfl rfl ?_
                  refine J.end ?_
                  refine X.then ?_
                  refine T.ret ?_
                  refine X.inBlock_ret (X.then_ret ?_)
                  exact X.ret1 rfl (RV.tmp rfl) (fun w' hw' => StkPost.mk' (S) hS (by obtain rfl : k = 12 := (by omega); rfl) rfl hw' (n' := n) rfl rfl)
                · exact absurd h8 (by omega)

set_option maxHeartbeats 1000000 in
theorem unlooked (w : World) (gS gR : Nat) (S : List Nat) (n : Int) (hS : S.length = 1024) (hn : -4611686018427387904 ≤ n ∧ n ≤ 4611686018427387904) (hat : Ent.At w ⟨some gS, 89, stkM S n⟩) (hat2 : Ent.At w ⟨some gR, 110, stkR S n⟩) (hne : gS ≠ gR) (k : Int) (b : Bool) (m q p : Int) (x y : Nat) (sl : Value) (hk : k = 7 ∨ k = 8 ∨ k = 10 ∨ k = 11) (hm : -9223372036854775808 ≤ m ∧ m ≤ 9223372036854775807) (hq : -9223372036854775808 ≤ q ∧ q ≤ 9223372036854775807) :
    Calls Try.prog 76 [.agg [.pointer (some ⟨gS, 0, none⟩), .pointer (some ⟨gR, 0, none⟩)].toArray, .agg (opc k b m q p x y sl).toArray].toArray w fun e w' => StkPost w 89 110 gS gR (stepN k m n) e w' := by
  refine calls_of_T [gS, gR] 120 [(0, ⟨some gS, 89, stkM S n⟩), (1, ⟨some gR, 110, stkR S n⟩)] Try.func76 rfl Try.ntmps76 (by simp) (WS.two hat hat2 hne) ?_
  refine T.seq ?_
  refine T.text [.l, .l, .l] rfl ?_
  refine J.box 2 rfl rfl [.pointer (some ⟨gS, 0, none⟩), .pointer (some ⟨gR, 0, none⟩)] rfl rfl (fun g2 hg2 => ?_)
  refine J.box 3 rfl rfl (opc k b m q p x y sl) rfl rfl (fun g3 hg3 => ?_)
  refine J.assign rfl rfl ?_
  refine J.end ?_
  refine X.then ?_
  refine T.seq ?_
  refine T.seq ?_
  refine T.text [.l, .l] rfl ?_
  refine J.fieldAddr fld52_0 rfl rfl ?_
  refine J.load1 (k := .l) trivial 3 rfl rfl one3 (by first | rfl | with_reducible exact rowN_get0 _ _ _ (by omega) | with_reducible exact rowN_get1 _ _ _ (by omega) | with_reducible exact rowN_get1s _ _ _ _ (by omega) | exact rowN_get1 _ _ _ (by omega) | exact rowN_get1s _ _ _ _ (by omega) | exact rowN_get0 _ _ _ (by omega)) rfl ?_
  refine J.end ?_
  refine X.then ?_
  refine T.block ?_
  refine T.seq ?_
  refine T.text [.l, .l] rfl ?_
  refine J.eql rfl rfl rfl rfl ?_
  refine J.assign rfl rfl ?_
  refine J.end ?_
  refine X.then ?_
  refine T.cond_dec rfl (fun h1 => ?_) (fun h1 => ?_)
  · skip
    refine T.seq ?_
    refine T.text [.l, .l, .l, .l, .l] rfl ?_
    refine J.fieldAddr fld92_0 rfl rfl ?_
    refine J.load1 (k := .l) trivial 2 rfl rfl one33 (by first | rfl | with_reducible exact rowN_get0 _ _ _ (by omega) | with_reducible exact rowN_get1 _ _ _ (by omega) | with_reducible exact rowN_get1s _ _ _ _ (by omega) | exact rowN_get1 _ _ _ (by omega) | exact rowN_get1s _ _ _ _ (by omega) | exact rowN_get0 _ _ _ (by omega)) rfl ?_
    refine J.fieldAddr fld52_5 rfl rfl ?_
    refine J.loadN (k := .l) trivial 3 rfl rfl agg25 (wc x) rfl rfl rfl ?_
    refine J.callMut 0 rfl rfl fok31 rfl rfl (fun w hw => Sa.Put w _ _ _ (by first | assumption | (rw [List.length_set]; assumption) | (simp only [List.length_set, swp_length, pushS_length, dupS_length, swapS_length, exS_length, *]; done)) (by first | assumption | omega) (hw.live 0 _ rfl) _) ?_
    refine J.end ?_
    refine X.then ?_
    refine T.text [.l, .l, .l, .l, .l] rfl ?_
    refine J.fieldAddr fld92_1 rfl rfl ?_
    refine J.load1 (k := .l) trivial 2 rfl rfl one90 (by first | rfl | with_reducible exact rowN_get0 _ _ _ (by omega) | with_reducible exact rowN_get1 _ _ _ (by omega) | with_reducible exact rowN_get1s _ _ _ _ (by omega) | exact rowN_get1 _ _ _ (by omega) | exact rowN_get1s _ _ _ _ (by omega) | exact rowN_get0 _ _ _ (by omega)) rfl ?_
    refine J.fieldAddr fld52_5 rfl rfl ?_
    refine J.loadN (k := .l) trivial 3 rfl rfl agg25 (wc x) rfl rfl rfl ?_
    refine J.callMut 1 rfl rfl fok89 rfl rfl (fun w hw => Sb.Put w _ _ _ (by first | assumption | (rw [List.length_set]; assumption) | (simp only [List.length_set, swp_length, pushS_length, dupS_length, swapS_length, exS_length, *]; done)) (by first | assumption | omega) (hw.live 1 _ rfl) _) ?_
    refine J.end ?_
    refine X.inBlock (X.then ?_)
    refine T.seq ?_
    refine T.text [.l] rfl ?_
    refine J.assign rfl rfl ?_
    refine J.end ?_
    refine X.then ?_
    refine T.ret ?_
    exact X.ret1 rfl (RV.tmp rfl) (fun w' hw' => StkPost.mk' (S.set (ix n) x) (by rw [List.length_set]; exact hS) (by obtain rfl : k = 7 := (by omega); rfl) rfl hw' (n' := n + 1) rfl rfl)
  · skip
    refine T.seq ?_
    refine T.text [.l, .l] rfl ?_
    refine J.eql rfl rfl rfl rfl ?_
    refine J.assign rfl rfl ?_
    refine J.end ?_
    refine X.then ?_
    refine T.cond_dec rfl (fun h2 => ?_) (fun h2 => ?_)
    · skip
      refine T.seq ?_
      refine T.draw [(2, ⟨some g2, 92, [.pointer (some ⟨gS, 0, none⟩), .pointer (some ⟨gR, 0, none⟩)]⟩)] [(0, .g), (1, .q), (3, .g), (4, .s), (2, .l), (5, .l), (6, .g), (7, .g)] (by kernel_rfl) (by kernel_rfl) ?_ (by repeat (first | exact Sub.nil _ | refine Sub.cons (by first | rfl | (rw [dgs_zero]; rfl) | (rw [List.drop_length]; rfl) | (simp; done) | (congr 2; omega) | (congr 3; omega)) ?_))
      refine J.fieldAddr fld92_0 rfl rfl ?_
      refine J.load1 (k := .q) trivial 2 rfl rfl one33 (by first | rfl | with_reducible exact rowN_get0 _ _ _ (by omega) | with_reducible exact rowN_get1 _ _ _ (by omega) | with_reducible exact rowN_get1s _ _ _ _ (by omega) | exact rowN_get1 _ _ _ (by omega) | exact rowN_get1s _ _ _ _ (by omega) | exact rowN_get0 _ _ _ (by omega)) rfl ?_
      refine J.fieldAddr fld92_1 rfl rfl ?_
      refine J.load1s 2 rfl rfl one90 (by first | rfl | with_reducible exact rowN_get0 _ _ _ (by omega) | with_reducible exact rowN_get1 _ _ _ (by omega) | with_reducible exact rowN_get1s _ _ _ _ (by omega) | exact rowN_get1 _ _ _ (by omega) | exact rowN_get1s _ _ _ _ (by omega) | exact rowN_get0 _ _ _ (by omega)) rfl ?_
      refine J.callMut 0 rfl rfl fok32 rfl rfl (fun w hw => Sa.Take w _ _ _ (by first | assumption | (rw [List.length_set]; assumption) | (simp only [List.length_set, swp_length, pushS_length, dupS_length, swapS_length, exS_length, *]; done)) (by first | assumption | omega) (hw.live 0 _ rfl)) ?_
      refine J.callMut 1 rfl rfl fok90 rfl rfl (fun w hw => Sb.Take w _ _ _ (by first | assumption | (rw [List.length_set]; assumption) | (simp only [List.length_set, swp_length, pushS_length, dupS_length, swapS_length, exS_length, *]; done)) (by first | assumption | omega) (hw.live 1 _ rfl)) ?_
      refine J.eqW eqw25 rfl rfl rfl ?_
      refine J.as 30 (.bool true) rfl (by rw [decide_eq_true rfl]) ?_
      refine J.assign rfl rfl ?_
      refine J.end ?_
      refine X.then ?_
      refine T.ret ?_
      refine X.inBlock_ret (X.then_ret ?_)
      exact X.ret1 rfl (RV.tmp rfl) (fun w' hw' => StkPost.mk' (S) hS (by obtain rfl : k = 8 := (by omega); rfl) rfl hw' (n' := n - 1) rfl rfl)
    · skip
      refine T.seq ?_
      refine T.text [.l, .l] rfl ?_
      refine J.eql rfl rfl rfl rfl ?_
      refine J.assign rfl rfl ?_
      refine J.end ?_
      refine X.then ?_
      refine T.cond_dec rfl (fun h3 => ?_) (fun h3 => ?_)
      · exact absurd h3 (by omega)
      · skip
        refine T.seq ?_
        refine T.text [.l, .l] rfl ?_
        refine J.eql rfl rfl rfl rfl ?_
        refine J.assign rfl rfl ?_
        refine J.end ?_
        refine X.then ?_
        refine T.cond_dec rfl (fun h4 => ?_) (fun h4 => ?_)
        · skip
          refine T.seq ?_
          refine T.text [.l, .l, .l, .l, .l] rfl ?_
          refine J.fieldAddr fld92_0 rfl rfl ?_
          refine J.load1 (k := .l) trivial 2 rfl rfl one33 (by first | rfl | with_reducible exact rowN_get0 _ _ _ (by omega) | with_reducible exact rowN_get1 _ _ _ (by omega) | with_reducible exact rowN_get1s _ _ _ _ (by omega) | exact rowN_get1 _ _ _ (by omega) | exact rowN_get1s _ _ _ _ (by omega) | exact rowN_get0 _ _ _ (by omega)) rfl ?_
          refine J.fieldAddr fld52_2 rfl rfl ?_
          refine J.load1 (k := .l) trivial 3 rfl rfl one3 (by first | rfl | with_reducible exact rowN_get0 _ _ _ (by omega) | with_reducible exact rowN_get1 _ _ _ (by omega) | with_reducible exact rowN_get1s _ _ _ _ (by omega) | exact rowN_get1 _ _ _ (by omega) | exact rowN_get1s _ _ _ _ (by omega) | exact rowN_get0 _ _ _ (by omega)) rfl ?_
          refine J.callMut 0 rfl rfl fok34 rfl rfl (fun w hw => Sa.Again w _ _ _ (by first | assumption | (rw [List.length_set]; assumption) | (simp only [List.length_set, swp_length, pushS_length, dupS_length, swapS_length, exS_length, *]; done)) (by first | assumption | omega) (hw.live 0 _ rfl) _) ?_
          refine J.end ?_
          refine X.then ?_
          refine T.text [.l, .l, .l, .l, .l] rfl ?_
          refine J.fieldAddr fld92_1 rfl rfl ?_
          refine J.load1 (k := .l) trivial 2 rfl rfl one90 (by first | rfl | with_reducible exact rowN_get0 _ _ _ (by omega) | with_reducible exact rowN_get1 _ _ _ (by omega) | with_reducible exact rowN_get1s _ _ _ _ (by omega) | exact rowN_get1 _ _ _ (by omega) | exact rowN_get1s _ _ _ _ (by omega) | exact rowN_get0 _ _ _ (by omega)) rfl ?_
          refine J.fieldAddr fld52_2 rfl rfl ?_
          refine J.load1 (k := .l) trivial 3 rfl rfl one3 (by first | rfl | with_reducible exact rowN_get0 _ _ _ (by omega) | with_reducible exact rowN_get1 _ _ _ (by omega) | with_reducible exact rowN_get1s _ _ _ _ (by omega) | exact rowN_get1 _ _ _ (by omega) | exact rowN_get1s _ _ _ _ (by omega) | exact rowN_get0 _ _ _ (by omega)) rfl ?_
          refine J.callMut 1 rfl rfl fok92 rfl rfl (fun w hw => Sb.Again w _ _ _ (by first | assumption | (rw [List.length_set]; assumption) | (simp only [List.length_set, swp_length, pushS_length, dupS_length, swapS_length, exS_length, *]; done)) (by first | assumption | omega) (hw.live 1 _ rfl) _) ?_
          refine J.end ?_
          refine X.inBlock (X.then ?_)
          refine T.seq ?_
          refine T.text [.l] rfl ?_
          refine J.assign rfl rfl ?_
          refine J.end ?_
          refine X.then ?_
          refine T.ret ?_
          exact X.ret1 rfl (RV.tmp rfl) (fun w' hw' => StkPost.mk' (S.set (ix n) (S.getD (ix (n - m)) 0)) (by rw [List.length_set]; exact hS) (by obtain rfl : k = 10 := (by omega); rfl) rfl hw' (n' := n + 1) rfl rfl)
        · skip
          refine T.seq ?_
          refine T.text [.l, .l] rfl ?_
          refine J.eql rfl rfl rfl rfl ?_
          refine J.assign rfl rfl ?_
          refine J.end ?_
          refine X.then ?_
          refine T.cond_dec rfl (fun h5 => ?_) (fun h5 => ?_)
          · skip
            refine T.seq ?_
            refine T.text [.l, .l, .l, .l, .l, .l, .l] rfl ?_
            refine J.fieldAddr fld92_0 rfl rfl ?_
            refine J.load1 (k := .l) trivial 2 rfl rfl one33 (by first | rfl | with_reducible exact rowN_get0 _ _ _ (by omega) | with_reducible exact rowN_get1 _ _ _ (by omega) | with_reducible exact rowN_get1s _ _ _ _ (by omega) | exact rowN_get1 _ _ _ (by omega) | exact rowN_get1s _ _ _ _ (by omega) | exact rowN_get0 _ _ _ (by omega)) rfl ?_
            refine J.fieldAddr fld52_2 rfl rfl ?_
            refine J.load1 (k := .l) trivial 3 rfl rfl one3 (by first | rfl | with_reducible exact rowN_get0 _ _ _ (by omega) | with_reducible exact rowN_get1 _ _ _ (by omega) | with_reducible exact rowN_get1s _ _ _ _ (by omega) | exact rowN_get1 _ _ _ (by omega) | exact rowN_get1s _ _ _ _ (by omega) | exact rowN_get0 _ _ _ (by omega)) rfl ?_
            refine J.fieldAddr fld52_3 rfl rfl ?_
            refine J.load1 (k := .l) trivial 3 rfl rfl one3 (by first | rfl | with_reducible exact rowN_get0 _ _ _ (by omega) | with_reducible exact rowN_get1 _ _ _ (by omega) | with_reducible exact rowN_get1s _ _ _ _ (by omega) | exact rowN_get1 _ _ _ (by omega) | exact rowN_get1s _ _ _ _ (by omega) | exact rowN_get0 _ _ _ (by omega)) rfl ?_
            refine J.callMut 0 rfl rfl fok28 rfl rfl (fun w hw => Sa.Turn w _ _ _ (by first | assumption | (rw [List.length_set]; assumption) | (simp only [List.length_set, swp_length, pushS_length, dupS_length, swapS_length, exS_length, *]; done)) (by first | assumption | omega) (hw.live 0 _ rfl) _ _) ?_
            refine J.end ?_
            refine X.then ?_
            refine T.text [.l, .l, .l, .l, .l, .l, .l] rfl ?_
            refine J.fieldAddr fld92_1 rfl rfl ?_
            refine J.load1 (k := .l) trivial 2 rfl rfl one90 (by first | rfl | with_reducible exact rowN_get0 _ _ _ (by omega) | with_reducible exact rowN_get1 _ _ _ (by omega) | with_reducible exact rowN_get1s _ _ _ _ (by omega) | exact rowN_get1 _ _ _ (by omega) | exact rowN_get1s _ _ _ _ (by omega) | exact rowN_get0 _ _ _ (by omega)) rfl ?_
            refine J.fieldAddr fld52_2 rfl rfl ?_
            refine J.load1 (k := .l) trivial 3 rfl rfl one3 (by first | rfl | with_reducible exact rowN_get0 _ _ _ (by omega) | with_reducible exact rowN_get1 _ _ _ (by omega) | with_reducible exact rowN_get1s _ _ _ _ (by omega) | exact rowN_get1 _ _ _ (by omega) | exact rowN_get1s _ _ _ _ (by omega) | exact rowN_get0 _ _ _ (by omega)) rfl ?_
            refine J.fieldAddr fld52_3 rfl rfl ?_
            refine J.load1 (k := .l) trivial 3 rfl rfl one3 (by first | rfl | with_reducible exact rowN_get0 _ _ _ (by omega) | with_reducible exact rowN_get1 _ _ _ (by omega) | with_reducible exact rowN_get1s _ _ _ _ (by omega) | exact rowN_get1 _ _ _ (by omega) | exact rowN_get1s _ _ _ _ (by omega) | exact rowN_get0 _ _ _ (by omega)) rfl ?_
            refine J.callMut 1 rfl rfl fok93 rfl rfl (fun w hw => Sb.Turn w _ _ _ (by first | assumption | (rw [List.length_set]; assumption) | (simp only [List.length_set, swp_length, pushS_length, dupS_length, swapS_length, exS_length, *]; done)) (by first | assumption | omega) (hw.live 1 _ rfl) _ _) ?_
            refine J.end ?_
            refine X.inBlock (X.then ?_)
            refine T.seq ?_
            refine T.text [.l] rfl ?_
            refine J.assign rfl rfl ?_
            refine J.end ?_
            refine X.then ?_
            refine T.ret ?_
            exact X.ret1 rfl (RV.tmp rfl) (fun w' hw' => StkPost.mk' (swp S (ix (n - m)) (ix (n - q))) (by rw [swp_length]; exact hS) (by obtain rfl : k = 11 := (by omega); rfl) rfl hw' (n' := n) rfl rfl)
          · exact absurd h5 (by omega)

theorem stacked (w : World) (gS gR : Nat) (S : List Nat) (n : Int) (hS : S.length = 1024) (hn : -4611686018427387904 ≤ n ∧ n ≤ 4611686018427387904) (hat : Ent.At w ⟨some gS, 89, stkM S n⟩) (hat2 : Ent.At w ⟨some gR, 110, stkR S n⟩) (hne : gS ≠ gR) (k : Int) (b : Bool) (m q p : Int) (x y : Nat) (sl : Value) (hk : k = 1 ∨ k = 2 ∨ k = 4 ∨ k = 5 ∨ k = 12 ∨ k = 7 ∨ k = 8 ∨ k = 10 ∨ k = 11) (hm : -9223372036854775808 ≤ m ∧ m ≤ 9223372036854775807) (hq : -9223372036854775808 ≤ q ∧ q ≤ 9223372036854775807) :
    Calls Try.prog 56 [.agg [.pointer (some ⟨gS, 0, none⟩), .pointer (some ⟨gR, 0, none⟩)].toArray, .agg (opc k b m q p x y sl).toArray].toArray w fun e w' => StkPost w 89 110 gS gR (stepN k m n) e w' := by
  refine calls_of_T [gS, gR] 24 [(0, ⟨some gS, 89, stkM S n⟩), (1, ⟨some gR, 110, stkR S n⟩)] Try.func56 rfl Try.ntmps56 (by simp) (WS.two hat hat2 hne) ?_
  refine T.seq ?_
  refine T.text [.l, .l, .l] rfl ?_
  refine J.box 2 rfl rfl [.pointer (some ⟨gS, 0, none⟩), .pointer (some ⟨gR, 0, none⟩)] rfl rfl (fun g2 hg2 => ?_)
  refine J.box 3 rfl rfl (opc k b m q p x y sl) rfl rfl (fun g3 hg3 => ?_)
  refine J.assign rfl rfl ?_
  refine J.end ?_
  refine X.then ?_
  refine T.seq ?_
  refine T.seq ?_
  refine T.text [.l, .l, .l, .l, .l, .l, .l, .l, .l, .l, .l, .l, .l] rfl ?_
  refine J.fieldAddr fld52_0 rfl rfl ?_
  refine J.load1 (k := .l) trivial 3 rfl rfl one3 (by first | rfl | with_reducible exact rowN_get0 _ _ _ (by omega) | with_reducible exact rowN_get1 _ _ _ (by omega) | with_reducible exact rowN_get1s _ _ _ _ (by omega) | exact rowN_get1 _ _ _ (by omega) | exact rowN_get1s _ _ _ _ (by omega) | exact rowN_get0 _ _ _ (by omega)) rfl ?_
  refine J.geq rfl rfl rfl rfl ?_
  refine J.move rfl rfl ?_
  refine J.split 8 rfl (fun h1 => ?_) (fun h1 => ?_)
  · skip
    refine J.yes rfl rfl ?_
    refine J.fieldAddr fld52_0 rfl rfl ?_
    refine J.yes rfl rfl ?_
    refine J.load1 (k := .l) trivial 3 rfl rfl one3 (by first | rfl | with_reducible exact rowN_get0 _ _ _ (by omega) | with_reducible exact rowN_get1 _ _ _ (by omega) | with_reducible exact rowN_get1s _ _ _ _ (by omega) | exact rowN_get1 _ _ _ (by omega) | exact rowN_get1s _ _ _ _ (by omega) | exact rowN_get0 _ _ _ (by omega)) rfl ?_
    refine J.yes rfl rfl ?_
    refine J.leq rfl rfl rfl rfl ?_
    refine J.pick_t rfl rfl rfl ?_
    refine J.move rfl rfl ?_
    refine J.split 13 rfl (fun h2 => ?_) (fun h2 => ?_)
    · skip
      refine J.no rfl rfl rfl rfl ?_
      refine J.no rfl rfl rfl rfl ?_
      refine J.no rfl rfl rfl rfl ?_
      refine J.pick_t rfl rfl rfl ?_
      refine J.end ?_
      refine X.then ?_
      refine T.cond_true rfl ?_
      refine T.seq ?_
      refine T.text [.l, .l, .l, .l] rfl ?_
      refine J.loadN (k := .l) trivial 2 rfl rfl agg92 [.pointer (some ⟨gS, 0, none⟩), .pointer (some ⟨gR, 0, none⟩)] rfl rfl rfl ?_
      refine J.loadN (k := .l) trivial 3 rfl rfl agg52 (opc k b m q p x y sl) rfl rfl rfl ?_
      refine J.callStk 0 1 rfl rfl (by decide) rfl rfl fok76 rfl rfl (fun w hw => Aw.unlooked w gS gR S n hS hn (hw.live 0 _ rfl) (hw.live 1 _ rfl) hne k b m q p x y sl (by omega) hm hq) (fun S20 hS20 => ?_)
      refine J.assign rfl rfl ?_
      refine J.end ?_
      refine X.then ?_
      refine T.ret ?_
      refine X.then_ret ?_
      exact X.ret1 rfl (RV.tmp rfl) (fun w' hw' => StkPost.mk' S20 hS20 rfl rfl hw' rfl rfl)
    · skip
      refine J.yes rfl rfl ?_
      refine J.fieldAddr fld52_0 rfl rfl ?_
      refine J.yes rfl rfl ?_
      refine J.load1 (k := .l) trivial 3 rfl rfl one3 (by first | rfl | with_reducible exact rowN_get0 _ _ _ (by omega) | with_reducible exact rowN_get1 _ _ _ (by omega) | with_reducible exact rowN_get1s _ _ _ _ (by omega) | exact rowN_get1 _ _ _ (by omega) | exact rowN_get1s _ _ _ _ (by omega) | exact rowN_get0 _ _ _ (by omega)) rfl ?_
      refine J.yes rfl rfl ?_
      refine J.geq rfl rfl rfl rfl ?_
      refine J.pick_f rfl rfl rfl ?_
      refine J.end ?_
      refine X.then ?_
      refine T.cond_dec rfl (fun h3 => ?_) (fun h3 => ?_)
      · skip
        refine T.seq ?_
        refine T.text [.l, .l, .l, .l] rfl ?_
        refine J.loadN (k := .l) trivial 2 rfl rfl agg92 [.pointer (some ⟨gS, 0, none⟩), .pointer (some ⟨gR, 0, none⟩)] rfl rfl rfl ?_
        refine J.loadN (k := .l) trivial 3 rfl rfl agg52 (opc k b m q p x y sl) rfl rfl rfl ?_
        refine J.callStk 0 1 rfl rfl (by decide) rfl rfl fok76 rfl rfl (fun w hw => Aw.unlooked w gS gR S n hS hn (hw.live 0 _ rfl) (hw.live 1 _ rfl) hne k b m q p x y sl (by omega) hm hq) (fun S20 hS20 => ?_)
        refine J.assign rfl rfl ?_
        refine J.end ?_
        refine X.then ?_
        refine T.ret ?_
        refine X.then_ret ?_
        exact X.ret1 rfl (RV.tmp rfl) (fun w' hw' => StkPost.mk' S20 hS20 rfl rfl hw' rfl rfl)
      · skip
        refine T.skip ?_
        refine X.then ?_
        refine T.seq ?_
        refine T.text [.l, .l, .l, .l] rfl ?_
        refine J.loadN (k := .l) trivial 2 rfl rfl agg92 [.pointer (some ⟨gS, 0, none⟩), .pointer (some ⟨gR, 0, none⟩)] rfl rfl rfl ?_
        refine J.loadN (k := .l) trivial 3 rfl rfl agg52 (opc k b m q p x y sl) rfl rfl rfl ?_
        refine J.callStk 0 1 rfl rfl (by decide) rfl rfl fok77 rfl rfl (fun w hw => Aw.looked w gS gR S n hS hn (hw.live 0 _ rfl) (hw.live 1 _ rfl) hne k b m q p x y sl (by omega) hm hq) (fun S23 hS23 => ?_)
        refine J.assign rfl rfl ?_
        refine J.end ?_
        refine X.then ?_
        refine T.ret ?_
        exact X.ret1 rfl (RV.tmp rfl) (fun w' hw' => StkPost.mk' S23 hS23 rfl rfl hw' rfl rfl)
  · skip
    refine J.no rfl rfl rfl rfl ?_
    refine J.no rfl rfl rfl rfl ?_
    refine J.no rfl rfl rfl rfl ?_
    refine J.pick_f rfl rfl rfl ?_
    refine J.move rfl rfl ?_
    refine J.yes rfl rfl ?_
    refine J.fieldAddr fld52_0 rfl rfl ?_
    refine J.yes rfl rfl ?_
    refine J.load1 (k := .l) trivial 3 rfl rfl one3 (by first | rfl | with_reducible exact rowN_get0 _ _ _ (by omega) | with_reducible exact rowN_get1 _ _ _ (by omega) | with_reducible exact rowN_get1s _ _ _ _ (by omega) | exact rowN_get1 _ _ _ (by omega) | exact rowN_get1s _ _ _ _ (by omega) | exact rowN_get0 _ _ _ (by omega)) rfl ?_
    refine J.yes rfl rfl ?_
    refine J.geq rfl rfl rfl rfl ?_
    refine J.pick_f rfl rfl rfl ?_
    refine J.end ?_
    refine X.then ?_
    refine T.cond_dec rfl (fun h4 => ?_) (fun h4 => ?_)
    · skip
      refine T.seq ?_
      refine T.text [.l, .l, .l, .l] rfl ?_
      refine J.loadN (k := .l) trivial 2 rfl rfl agg92 [.pointer (some ⟨gS, 0, none⟩), .pointer (some ⟨gR, 0, none⟩)] rfl rfl rfl ?_
      refine J.loadN (k := .l) trivial 3 rfl rfl agg52 (opc k b m q p x y sl) rfl rfl rfl ?_
      refine J.callStk 0 1 rfl rfl (by decide) rfl rfl fok76 rfl rfl (fun w hw => Aw.unlooked w gS gR S n hS hn (hw.live 0 _ rfl) (hw.live 1 _ rfl) hne k b m q p x y sl (by omega) hm hq) (fun S20 hS20 => ?_)
      refine J.assign rfl rfl ?_
      refine J.end ?_
      refine X.then ?_
      refine T.ret ?_
      refine X.then_ret ?_
      exact X.ret1 rfl (RV.tmp rfl) (fun w' hw' => StkPost.mk' S20 hS20 rfl rfl hw' rfl rfl)
    · skip
      refine T.skip ?_
      refine X.then ?_
      refine T.seq ?_
      refine T.text [.l, .l, .l, .l] rfl ?_
      refine J.loadN (k := .l) trivial 2 rfl rfl agg92 [.pointer (some ⟨gS, 0, none⟩), .pointer (some ⟨gR, 0, none⟩)] rfl rfl rfl ?_
      refine J.loadN (k := .l) trivial 3 rfl rfl agg52 (opc k b m q p x y sl) rfl rfl rfl ?_
      refine J.callStk 0 1 rfl rfl (by decide) rfl rfl fok77 rfl rfl (fun w hw => Aw.looked w gS gR S n hS hn (hw.live 0 _ rfl) (hw.live 1 _ rfl) hne k b m q p x y sl (by omega) hm hq) (fun S23 hS23 => ?_)
      refine J.assign rfl rfl ?_
      refine J.end ?_
      refine X.then ?_
      refine T.ret ?_
      exact X.ret1 rfl (RV.tmp rfl) (fun w' hw' => StkPost.mk' S23 hS23 rfl rfl hw' rfl rfl)

theorem pair (w : World) :
    Calls Try.prog 55 [].toArray w fun e w' => PairPost w 89 110 (stkM zstk 0) (stkR zstk 0) e w' := by
  refine calls_of_T [] 4 [] Try.func55 rfl Try.ntmps55 (by simp) (WS.refl _ _) ?_
  refine T.seq ?_
  refine T.text [.l] rfl ?_
  refine J.alloc 0 rfl zero92 [.pointer none, .pointer none] rfl rfl (fun g0 hg0 => ?_)
  refine J.end ?_
  refine X.then ?_
  refine T.seq ?_
  refine T.text [.l, .l, .l, .l] rfl ?_
  refine J.callNew 1 rfl (t := 89) (cs := (stkM zstk 0)) fok18 rfl rfl (fun w hw => Sa.NewStack w) (fun g1 hg1 => ?_)
  refine J.callNew 2 rfl (t := 110) (cs := (stkR zstk 0)) fok75 rfl rfl (fun w hw => Sb.NewStack w) (fun g2 hg2 => ?_)
  refine J.build rfl rfl (.agg [.pointer (some ⟨g1, 0, none⟩), .pointer (some ⟨g2, 0, none⟩)].toArray) (fun w => by kernel_rfl) ?_
  refine J.store 0 rfl rfl rfl rfl [.pointer (some ⟨g1, 0, none⟩), .pointer (some ⟨g2, 0, none⟩)] rfl sz92 (by first | decide | exact Nat.le_refl _ | exact Nat.le_of_ble_eq_true rfl | (simp [rowN]; done) | (simp [rowN]; omega)) (by first | exact rowN_one _ _ | (simp; done) | (intro u hu; simp at hu; subst hu; rfl) | (intro u hu; simp at hu; rcases hu with rfl | rfl <;> rfl)) (by first | decide | exact Nat.zero_lt_succ _ | simp) trivial [.pointer (some ⟨g1, 0, none⟩), .pointer (some ⟨g2, 0, none⟩)] rfl ?_
  refine J.end ?_
  refine X.then ?_
  refine T.ret ?_
  exact X.ret1 rfl (RV.agg 0 rfl rfl agg92 [.pointer (some ⟨g1, 0, none⟩), .pointer (some ⟨g2, 0, none⟩)] (by rfl) (by rfl) rfl) (fun w' hw' => ⟨g1, g2, hg1, hg2, rfl, hw'.pairOf 1 2 rfl rfl (by decide) 0 1 (by decide)⟩)

set_option maxRecDepth 100000 in
set_option maxHeartbeats 2000000 in
theorem awake (w : World) :
    Calls Try.prog 25 [].toArray w fun e w' => e = .returned (.bool true) ∧ WS w [] [] w' := by
  refine calls_of_T [] 34 [] Try.func25 rfl Try.ntmps25 (by simp) (WS.refl _ _) ?_
  refine T.seq ?_
  refine T.text [.l] rfl ?_
  refine J.assign rfl rfl ?_
  refine J.end ?_
  refine X.then ?_
  refine T.seq ?_
  refine T.text [.l, .l, .l] rfl ?_
  refine J.callPair 100 101 (by decide) rfl rfl fok55 rfl rfl (fun w hw => Aw.pair w) (fun a4 b4 ha4 hb4 => ?_)
  refine J.alloc 1 rfl zero92 [.pointer none, .pointer none] rfl rfl (fun g1 hg1 => ?_)
  refine J.store 1 rfl rfl rfl rfl [.pointer (some ⟨a4, 0, none⟩), .pointer (some ⟨b4, 0, none⟩)] rfl sz92 (by first | decide | exact Nat.le_refl _ | exact Nat.le_of_ble_eq_true rfl | (simp [rowN]; done) | (simp [rowN]; omega)) (by first | exact rowN_one _ _ | (simp; done) | (intro u hu; simp at hu; subst hu; rfl) | (intro u hu; simp at hu; rcases hu with rfl | rfl <;> rfl)) (by first | decide | exact Nat.zero_lt_succ _ | simp) trivial [.pointer (some ⟨a4, 0, none⟩), .pointer (some ⟨b4, 0, none⟩)] rfl ?_
  refine J.end ?_
  refine X.then ?_
  refine T.seq ?_
  refine T.seq ?_
  refine T.text [.l, .l, .l] rfl ?_
  refine J.fieldAddr fld92_0 rfl rfl ?_
  refine J.load1 (k := .l) trivial 1 rfl rfl one33 (by first | rfl | with_reducible exact rowN_get0 _ _ _ (by omega) | with_reducible exact rowN_get1 _ _ _ (by omega) | with_reducible exact rowN_get1s _ _ _ _ (by omega) | exact rowN_get1 _ _ _ (by omega) | exact rowN_get1s _ _ _ _ (by omega) | exact rowN_get0 _ _ _ (by omega)) rfl ?_
  refine J.eqNil (by kernel_rfl) rfl rfl rfl rfl ?_
  refine J.end ?_
  refine X.then ?_
  refine T.cond_false rfl ?_
  refine T.skip ?_
  refine X.then ?_
  refine T.seq ?_
  refine T.text [.l, .l, .l, .l, .l, .l, .l, .l, .l, .l, .l, .l, .l, .l] rfl ?_
  refine J.build rfl rfl (W 5) (fun w => by kernel_rfl) ?_
  refine J.build rfl rfl (.agg (opc 1 false 0 0 0 5 0 (.slice none 0 0)).toArray) (fun w => by kernel_rfl) ?_
  refine J.build rfl rfl (W 6) (fun w => by kernel_rfl) ?_
  refine J.build rfl rfl (.agg (opc 7 false 0 0 0 6 0 (.slice none 0 0)).toArray) (fun w => by kernel_rfl) ?_
  refine J.build rfl rfl (.agg (opc 5 false 1 0 0 0 0 (.slice none 0 0)).toArray) (fun w => by kernel_rfl) ?_
  refine J.build rfl rfl (.agg (opc 4 false 2 0 0 0 0 (.slice none 0 0)).toArray) (fun w => by kernel_rfl) ?_
  refine J.build rfl rfl (.agg (opc 10 false 2 0 0 0 0 (.slice none 0 0)).toArray) (fun w => by kernel_rfl) ?_
  refine J.build rfl rfl (.agg (opc 11 false 1 3 0 0 0 (.slice none 0 0)).toArray) (fun w => by kernel_rfl) ?_
  refine J.build rfl rfl (.agg (opc 12 false 0 0 0 0 0 (.slice none 0 0)).toArray) (fun w => by kernel_rfl) ?_
  refine J.build rfl rfl (.agg (opc 2 false 0 0 0 0 0 (.slice none 0 0)).toArray) (fun w => by kernel_rfl) ?_
  refine J.build rfl rfl (.agg (opc 8 false 0 0 0 0 0 (.slice none 0 0)).toArray) (fun w => by kernel_rfl) ?_
  refine J.build rfl rfl (.agg awkc.toArray) (fun w => by kernel_rfl) ?_
  refine J.alloc 2 rfl zero94 ([(.int .i64 0 : Value)] ++ [(.bool false : Value)] ++ List.replicate 3 (.int .i64 0 : Value) ++ List.replicate 8 (.int .u64 0 : Value) ++ [(.slice none 0 0 : Value)] ++ [(.int .i64 0 : Value)] ++ [(.bool false : Value)] ++ List.replicate 3 (.int .i64 0 : Value) ++ List.replicate 8 (.int .u64 0 : Value) ++ [(.slice none 0 0 : Value)] ++ [(.int .i64 0 : Value)] ++ [(.bool false : Value)] ++ List.replicate 3 (.int .i64 0 : Value) ++ List.replicate 8 (.int .u64 0 : Value) ++ [(.slice none 0 0 : Value)] ++ [(.int .i64 0 : Value)] ++ [(.bool false : Value)] ++ List.replicate 3 (.int .i64 0 : Value) ++ List.replicate 8 (.int .u64 0 : Value) ++ [(.slice none 0 0 : Value)] ++ [(.int .i64 0 : Value)] ++ [(.bool false : Value)] ++ List.replicate 3 (.int .i64 0 : Value) ++ List.replicate 8 (.int .u64 0 : Value) ++ [(.slice none 0 0 : Value)] ++ [(.int .i64 0 : Value)] ++ [(.bool false : Value)] ++ List.replicate 3 (.int .i64 0 : Value) ++ List.replicate 8 (.int .u64 0 : Value) ++ [(.slice none 0 0 : Value)] ++ [(.int .i64 0 : Value)] ++ [(.bool false : Value)] ++ List.replicate 3 (.int .i64 0 : Value) ++ List.replicate 8 (.int .u64 0 : Value) ++ [(.slice none 0 0 : Value)] ++ [(.int .i64 0 : Value)] ++ [(.bool false : Value)] ++ List.replicate 3 (.int .i64 0 : Value) ++ List.replicate 8 (.int .u64 0 : Value) ++ [(.slice none 0 0 : Value)] ++ [(.int .i64 0 : Value)] ++ [(.bool false : Value)] ++ List.replicate 3 (.int .i64 0 : Value) ++ List.replicate 8 (.int .u64 0 : Value) ++ [(.slice none 0 0 : Value)]) rfl rfl (fun g2 hg2 => ?_)
  refine J.store 2 rfl rfl rfl rfl awkc rfl sz94 (Nat.le_of_ble_eq_true rfl) (by decide +kernel) (Nat.le_of_ble_eq_true rfl) trivial awkc (put_all _ _ rfl) ?_
  refine J.end ?_
  refine X.then ?_
  refine T.seq ?_
  refine T.seq ?_
  refine T.text [.l] rfl ?_
  refine J.assign rfl rfl ?_
  refine J.end ?_
  refine X.then ?_
  refine T.block ?_
  refine T.loop (ι := Nat × List Nat) (fun ((i, S) : Nat × List Nat) => i ≤ 9 ∧ S.length = 1024) (fun ((i, S) : Nat × List Nat) => [(1, .pointer (some ⟨g1, 0, none⟩)), (2, .pointer (some ⟨g2, 0, none⟩)), (3, .int .i64 (i : Int))]) (fun ((i, S) : Nat × List Nat) => [(1, ⟨some g1, 92, [.pointer (some ⟨a4, 0, none⟩), .pointer (some ⟨b4, 0, none⟩)]⟩), (2, ⟨some g2, 94, awkc⟩), (100, ⟨some a4, 89, stkM S (awn i)⟩), (101, ⟨some b4, 110, stkR S (awn i)⟩)]) (fun ((i, S) : Nat × List Nat) => 9 - i) ⟨0, zstk⟩ ⟨Nat.zero_le _, zstk_length⟩ (by repeat (first | exact Sub.nil _ | refine Sub.cons (by first | rfl | (rw [dgs_zero]; rfl) | (rw [List.drop_length]; rfl) | (simp; done) | (congr 2; omega) | (congr 3; omega)) ?_)) (by repeat (first | exact Sub.nil _ | refine Sub.cons (by first | rfl | (rw [dgs_zero]; rfl) | (rw [List.drop_length]; rfl) | (simp; done) | (congr 2; omega) | (congr 3; omega)) ?_)) ?_
  rintro ⟨i, S⟩ ⟨hi, hS⟩
  try dsimp only at *
  refine T.seq ?_
  refine T.seq ?_
  refine T.text [.l, .l] rfl ?_
  refine J.move rfl rfl ?_
  refine J.lss rfl rfl rfl rfl ?_
  refine J.end ?_
  refine X.then ?_
  refine T.cond_dec rfl (fun h1 => ?_) (fun h1 => ?_)
  · have hi9 : i < 9 := by omega
    have haw := awk_all ⟨i, hi9⟩
    dsimp only at haw
    refine T.skip ?_
    refine X.then ?_
    refine T.seq ?_
    refine T.block ?_
    refine T.seq ?_
    refine T.draw [] [(0, .q), (1, .g), (2, .g), (3, .q), (4, .l), (5, .g)] (by kernel_rfl) (by kernel_rfl) ?_ (by repeat (first | exact Sub.nil _ | refine Sub.cons (by first | rfl | (rw [dgs_zero]; rfl) | (rw [List.drop_length]; rfl) | (simp; done) | (congr 2; omega) | (congr 3; omega)) ?_))
    refine J.loadN (k := .q) trivial 1 rfl rfl agg92 [.pointer (some ⟨a4, 0, none⟩), .pointer (some ⟨b4, 0, none⟩)] rfl rfl rfl ?_
    refine J.move rfl rfl ?_
    refine J.indexArr arr94 rfl rfl (by omega) (by omega) (by first | exact Int.toNat_natCast _ | rfl) rfl ?_
    refine J.loadN (k := .q) trivial 2 rfl rfl agg52 (opc (awq i).1 false (awq i).2.1 (awq i).2.2.1 0 (awq i).2.2.2 0 (.slice none 0 0)) rfl (by rw [Nat.zero_add]; exact awk_seg i hi9) rfl ?_
    refine J.callStk 100 101 (n := awn (i + 1)) rfl rfl (by decide) rfl rfl fok56 rfl rfl (fun w hw => by rw [← haw.2.2.2.1]; exact Aw.stacked w a4 b4 S (awn i) hS (by omega) (hw.live 100 _ rfl) (hw.live 101 _ rfl) (hw.ne 100 101 rfl rfl (by decide)) _ _ _ _ _ _ _ _ haw.1 (by omega) (by omega)) (fun S28 hS28 => ?_)
    refine J.not rfl rfl rfl ?_
    refine J.end ?_
    refine X.then ?_
    refine T.cond_false rfl ?_
    refine T.skip ?_
    refine X.inBlock (X.then ?_)
    refine T.text [.l, .l, .l] rfl ?_
    refine J.move rfl rfl ?_
    refine J.add rfl rfl rfl (by first | exact add_nat _ 1 (by omega) | exact i64_ok _ (by omega) | exact rfl) ?_
    refine J.assign rfl rfl ?_
    refine J.end ?_
    exact X.round ⟨(i + 1), S28⟩ ⟨by omega, hS28⟩ (by first | omega | (dsimp only; omega)) (by repeat (first | exact Sub.nil _ | refine Sub.cons (by first | rfl | (rw [dgs_zero]; rfl) | (rw [List.drop_length]; rfl) | (simp; done) | (congr 2; omega) | (congr 3; omega)) ?_)) (by repeat (first | exact Sub.nil _ | refine Sub.cons (by first | rfl | (rw [dgs_zero]; rfl) | (rw [List.drop_length]; rfl) | (simp; done) | (congr 2; omega) | (congr 3; omega)) ?_))
  · obtain rfl : i = 9 := by omega
    refine T.exit ?_
    refine X.then_exit (X.then_exit (X.inBlock_eq (X.then ?_)))
    refine T.seq ?_
    refine T.text [.l, .l, .l, .l, .l] rfl ?_
    refine J.fieldAddr fld92_1 rfl rfl ?_
    refine J.load1 (k := .l) trivial 1 rfl rfl one90 (by first | rfl | with_reducible exact rowN_get0 _ _ _ (by omega) | with_reducible exact rowN_get1 _ _ _ (by omega) | with_reducible exact rowN_get1s _ _ _ _ (by omega) | exact rowN_get1 _ _ _ (by omega) | exact rowN_get1s _ _ _ _ (by omega) | exact rowN_get0 _ _ _ (by omega)) rfl ?_
    refine J.call0 (k := .l) trivial fok57 rfl rfl (fun w hw => Sb.Len w b4 S (awn 9) hS (by decide) (hw.blkCs (k := 101) rfl)) ?_
    refine J.eql rfl rfl rfl (decide_eq_true (by decide)) ?_
    refine J.assign rfl rfl ?_
    refine J.end ?_
    refine X.then ?_
    refine T.ret ?_
    exact X.ret1 rfl (RV.tmp rfl) (fun w' hw' => ⟨rfl, hw'.sub (Sub.nil _)⟩)
end Go.Proofs.Ytpkjbeebhdgleaa.Aw
