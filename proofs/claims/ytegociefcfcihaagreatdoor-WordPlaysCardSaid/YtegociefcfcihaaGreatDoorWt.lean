/-
  Walks, printed by gen.py: what each function hands back, said of numbers.
  Conditions: those that each theorem bears.
-/
import Derived.Test.YtegociefcfcihaaGreatDoorChecked
import Derived.Test.YtegociefcfcihaaGreatDoorFu
import Derived.Test.YtegociefcfcihaaGreatDoorWa
import Derived.Test.YtegociefcfcihaaGreatDoorWb
import Derived.Test.YtegociefcfcihaaGreatDoorWd
set_option linter.unusedVariables false
set_option maxRecDepth 20000
namespace Go.Proofs.YtegociefcfcihaaGreatDoor.Wt
open Go Go.Fw

theorem sz73 : SizeT Tryz.prog 73 32 := (by unfold SizeT; kernel_rfl)
theorem zero8 : ZeroT Tryz.prog 68 (.agg (rowN .u64 (lg 0)).toArray) := (by unfold ZeroT; kernel_rfl)
theorem one37 : OneT Tryz.prog 37 := ⟨⟨_, Tryz.underlying37, rfl⟩, by kernel_rfl⟩
theorem one41 : OneT Tryz.prog 41 := ⟨⟨_, Tryz.underlying41, rfl⟩, by kernel_rfl⟩
theorem fok24 : FnOk Tryz.prog 24 := FnOk.mk' Tryz.func24 (by kernel_rfl) rfl
theorem fok21 : FnOk Tryz.prog 21 := FnOk.mk' Tryz.func21 (by kernel_rfl) rfl
theorem fok28 : FnOk Tryz.prog 28 := FnOk.mk' Tryz.func28 (by kernel_rfl) rfl
theorem fok29 : FnOk Tryz.prog 29 := FnOk.mk' Tryz.func29 (by kernel_rfl) rfl
theorem fok30 : FnOk Tryz.prog 30 := FnOk.mk' Tryz.func30 (by kernel_rfl) rfl
theorem fok31 : FnOk Tryz.prog 31 := FnOk.mk' Tryz.func31 (by kernel_rfl) rfl
theorem fok32 : FnOk Tryz.prog 32 := FnOk.mk' Tryz.func32 (by kernel_rfl) rfl
theorem fok33 : FnOk Tryz.prog 33 := FnOk.mk' Tryz.func33 (by kernel_rfl) rfl
theorem fok34 : FnOk Tryz.prog 34 := FnOk.mk' Tryz.func34 (by kernel_rfl) rfl
theorem fok35 : FnOk Tryz.prog 35 := FnOk.mk' Tryz.func35 (by kernel_rfl) rfl
theorem fok36 : FnOk Tryz.prog 36 := FnOk.mk' Tryz.func36 (by kernel_rfl) rfl
theorem fok37 : FnOk Tryz.prog 37 := FnOk.mk' Tryz.func37 (by kernel_rfl) rfl
theorem fok26 : FnOk Tryz.prog 26 := FnOk.mk' Tryz.func26 (by kernel_rfl) rfl
theorem fok38 : FnOk Tryz.prog 38 := FnOk.mk' Tryz.func38 (by kernel_rfl) rfl
theorem fok39 : FnOk Tryz.prog 39 := FnOk.mk' Tryz.func39 (by kernel_rfl) rfl
theorem fok40 : FnOk Tryz.prog 40 := FnOk.mk' Tryz.func40 (by kernel_rfl) rfl
theorem fok41 : FnOk Tryz.prog 41 := FnOk.mk' Tryz.func41 (by kernel_rfl) rfl
theorem fok42 : FnOk Tryz.prog 42 := FnOk.mk' Tryz.func42 (by kernel_rfl) rfl
theorem fok43 : FnOk Tryz.prog 43 := FnOk.mk' Tryz.func43 (by kernel_rfl) rfl
theorem fok45 : FnOk Tryz.prog 45 := FnOk.mk' Tryz.func45 (by kernel_rfl) rfl
theorem fok46 : FnOk Tryz.prog 46 := FnOk.mk' Tryz.func46 (by kernel_rfl) rfl
theorem fok47 : FnOk Tryz.prog 47 := FnOk.mk' Tryz.func47 (by kernel_rfl) rfl
theorem fok48 : FnOk Tryz.prog 48 := FnOk.mk' Tryz.func48 (by kernel_rfl) rfl
theorem fok50 : FnOk Tryz.prog 50 := FnOk.mk' Tryz.func50 (by kernel_rfl) rfl
theorem fok51 : FnOk Tryz.prog 51 := FnOk.mk' Tryz.func51 (by kernel_rfl) rfl
theorem fok52 : FnOk Tryz.prog 52 := FnOk.mk' Tryz.func52 (by kernel_rfl) rfl
theorem fok53 : FnOk Tryz.prog 53 := FnOk.mk' Tryz.func53 (by kernel_rfl) rfl
theorem fok54 : FnOk Tryz.prog 54 := FnOk.mk' Tryz.func54 (by kernel_rfl) rfl
theorem func34T : FuncT Tryz.prog 34 := ⟨_, _, _, Tryz.underlying34⟩
theorem fok8 : FnOk Tryz.prog 8 := FnOk.mk' Tryz.func8 (by kernel_rfl) rfl
theorem fok112 : FnOk Tryz.prog 112 := FnOk.mk' Tryz.func112 (by kernel_rfl) rfl
theorem fok108 : FnOk Tryz.prog 108 := FnOk.mk' Tryz.func108 (by kernel_rfl) rfl
theorem agg24 : AggT Tryz.prog 24 4 := ⟨⟨_, Tryz.underlying24, rfl⟩, by kernel_rfl⟩
theorem fok91 : FnOk Tryz.prog 91 := FnOk.mk' Tryz.func91 (by kernel_rfl) rfl
theorem fok90 : FnOk Tryz.prog 90 := FnOk.mk' Tryz.func90 (by kernel_rfl) rfl
theorem zero24 : ZeroT Tryz.prog 24 (.agg ([.int .u64 0, .int .u64 0, .int .u64 0, .int .u64 0]).toArray) := (by unfold ZeroT; kernel_rfl)
theorem sz24 : SizeT Tryz.prog 24 4 := (by unfold SizeT; kernel_rfl)
theorem sz22 : SizeT Tryz.prog 22 1 := (by unfold SizeT; kernel_rfl)
theorem arr24 : ArrT Tryz.prog 24 4 22 1 := ⟨Tryz.underlying24, sz22⟩
theorem one22 : OneT Tryz.prog 22 := ⟨⟨_, Tryz.underlying22, rfl⟩, by kernel_rfl⟩
theorem fok92 : FnOk Tryz.prog 92 := FnOk.mk' Tryz.func92 (by kernel_rfl) rfl
theorem fok44 : FnOk Tryz.prog 44 := FnOk.mk' Tryz.func44 (by kernel_rfl) rfl

theorem small2 (w : World) :
    Calls Tryz.prog 112 [.int .i64 2].toArray w fun e w' => e = .returned (.string (bstr [50])) ∧ WS w [] [] w' := by
  refine calls_of_T [] 15 [] Tryz.func112 rfl Tryz.ntmps112 (by simp) (WS.refl _ _) ?_
  refine T.seq ?_
  refine T.text [.l] rfl ?_
  refine J.assign rfl rfl ?_
  refine J.as 2 (.string (bstr [])) rfl rfl ?_
  refine J.end ?_
  refine X.then ?_
  refine T.seq ?_
  refine T.seq ?_
  refine T.text [.l, .l] rfl ?_
  refine J.move rfl rfl ?_
  refine J.lss rfl rfl rfl (decide_eq_true (by first | omega | rfl | assumption | (simp only [*]; done))) ?_
  refine J.end ?_
  refine X.then ?_
  refine T.cond_true rfl ?_
  refine T.seq ?_
  refine T.text [.l, .l, .l, .l, .l] rfl ?_
  refine J.move rfl rfl ?_
  refine J.move rfl rfl ?_
  refine J.add rfl rfl rfl (by first | exact add_nat _ 1 (by omega) | exact i64_ok _ (by omega) | exact rfl) ?_
  refine J.sliceStr Tryz.underlying9 rfl (optInt.some rfl (by omega) (by first | exact Int.toNat_natCast _ | rfl)) (optInt.some rfl (by omega) (by first | exact Int.toNat_natCast _ | rfl)) (by decide) (by decide) rfl ?_
  refine J.as 8 (.string (bstr [50])) rfl (by rfl) ?_
  refine J.assign rfl rfl ?_
  refine J.end ?_
  refine X.then ?_
  refine T.ret ?_
  refine X.then_ret ?_
  exact X.ret1 rfl (RV.tmp rfl) (fun w' hw' => ⟨rfl, hw'.sub (Sub.nil _)⟩)

theorem fmt2 (w : World) :
    Calls Tryz.prog 108 [.int .u64 2, .int .i64 10].toArray w fun e w' => e = .returned (.string (bstr [50])) ∧ WS w [] [] w' := by
  refine calls_of_T [] 32 [] Tryz.func108 rfl Tryz.ntmps108 (by simp) (WS.refl _ _) ?_
  refine T.seq ?_
  refine T.text [.l] rfl ?_
  refine J.assign rfl rfl ?_
  refine J.as 4 (.string (bstr [])) rfl rfl ?_
  refine J.end ?_
  refine X.then ?_
  refine T.seq ?_
  refine T.seq ?_
  refine T.text [.l, .l] rfl ?_
  refine J.move rfl rfl ?_
  refine J.eql rfl rfl rfl (decide_eq_true (by first | omega | rfl | assumption | (simp only [*]; done))) ?_
  refine J.end ?_
  refine X.then ?_
  refine T.cond_true rfl ?_
  refine T.seq ?_
  refine T.seq ?_
  refine T.text [.l, .l] rfl ?_
  refine J.move rfl rfl ?_
  refine J.lss rfl rfl rfl (decide_eq_true (by first | omega | rfl | assumption | (simp only [*]; done))) ?_
  refine J.end ?_
  refine X.then ?_
  refine T.cond_true rfl ?_
  refine T.seq ?_
  refine T.text [.l, .l, .l, .l] rfl ?_
  refine J.move rfl rfl ?_
  refine J.conv (by rw [Tryz.underlying22]; rfl) Tryz.underlying3 rfl rfl (by first | exact wrap_nat64 _ (by omega) | exact i64_ok _ (by omega) | exact rfl) ?_
  refine J.call0 (k := .l) trivial fok112 rfl rfl (fun w hw => Wt.small2 w) ?_
  refine J.assign rfl rfl ?_
  refine J.end ?_
  refine X.then ?_
  refine T.ret ?_
  refine X.then_ret (X.then_ret ?_)
  exact X.ret1 rfl (RV.tmp rfl) (fun w' hw' => ⟨rfl, hw'.sub (Sub.nil _)⟩)

theorem format2 (w : World) :
    Calls Tryz.prog 92 [.int .u64 2, .int .i64 10].toArray w fun e w' => e = .returned (.string (bstr [50])) ∧ WS w [] [] w' := by
  refine calls_of_T [] 8 [] Tryz.func92 rfl Tryz.ntmps92 (by simp) (WS.refl _ _) ?_
  refine T.seq ?_
  refine T.text [.l] rfl ?_
  refine J.assign rfl rfl ?_
  refine J.as 4 (.string (bstr [])) rfl rfl ?_
  refine J.end ?_
  refine X.then ?_
  refine T.seq ?_
  refine T.text [.l, .l, .l, .l] rfl ?_
  refine J.move rfl rfl ?_
  refine J.move rfl rfl ?_
  refine J.call0 (k := .l) trivial fok108 rfl rfl (fun w hw => Wt.fmt2 w) ?_
  refine J.assign rfl rfl ?_
  refine J.end ?_
  refine X.then ?_
  refine T.ret ?_
  exact X.ret1 rfl (RV.tmp rfl) (fun w' hw' => ⟨rfl, hw'.sub (Sub.nil _)⟩)

theorem text2 (w : World) :
    Calls Tryz.prog 22 [W 2].toArray w fun e w' => e = .returned (.string (bstr [50])) ∧ WS w [] [] w' := by
  refine calls_of_T [] 31 [] Tryz.func22 rfl Tryz.ntmps22 (by simp) (WS.refl _ _) ?_
  refine T.seq ?_
  refine T.text [.l, .l] rfl ?_
  refine J.box 1 rfl rfl (wc 2) rfl rfl (fun g1 hg1 => ?_)
  refine J.assign rfl rfl ?_
  refine J.as 2 (.string (bstr [])) rfl rfl ?_
  refine J.end ?_
  refine X.then ?_
  refine T.seq ?_
  refine T.text [.l] rfl ?_
  refine J.assign rfl rfl ?_
  refine J.as 3 (.string (bstr [])) rfl rfl ?_
  refine J.end ?_
  refine X.then ?_
  refine T.block ?_
  refine T.loop (ι := Unit) (fun (_ : Unit) => True) (fun (_ : Unit) => [(0, W 2), (1, .pointer (some ⟨g1, 0, none⟩)), (3, .string (bstr []))]) (fun (_ : Unit) => [(1, ⟨some g1, 24, wc 2⟩)]) (fun (_ : Unit) => 0) () trivial (by repeat (first | exact Sub.nil _ | refine Sub.cons (by first | rfl | (rw [dgs_zero]; rfl) | (rw [List.drop_length]; rfl) | (simp; done) | (congr 2; omega) | (congr 3; omega)) ?_)) (by repeat (first | exact Sub.nil _ | refine Sub.cons (by first | rfl | (rw [dgs_zero]; rfl) | (rw [List.drop_length]; rfl) | (simp; done) | (congr 2; omega) | (congr 3; omega)) ?_)) ?_
  rintro _ _
  refine T.block ?_
  refine T.seq ?_
  refine T.text [.l, .l, .l, .l, .l, .l, .l, .l, .l, .l, .l] rfl ?_
  refine J.loadN (k := .l) trivial 1 rfl rfl agg24 (wc 2) rfl rfl rfl ?_
  refine J.call0 (k := .l) trivial fok91 rfl rfl (fun w hw => Wb.wide w _ 0 (by omega)) ?_
  refine J.build rfl rfl (W 10000000000000000000) (fun w => by kernel_rfl) ?_
  refine J.call0 (k := .l) trivial fok90 rfl rfl (fun w hw => Wd.divide w _ _ (by omega) (by omega)) ?_
  refine J.move rfl rfl ?_
  refine J.extract rfl rfl rfl ?_
  refine J.extract rfl rfl rfl ?_
  refine J.alloc 4 rfl zero24 [.int .u64 0, .int .u64 0, .int .u64 0, .int .u64 0] rfl rfl (fun g4 hg4 => ?_)
  refine J.alloc 5 rfl zero24 [.int .u64 0, .int .u64 0, .int .u64 0, .int .u64 0] rfl rfl (fun g5 hg5 => ?_)
  refine J.store 4 rfl rfl rfl rfl (wc (((2 % 2 ^ 256 + 0 * 2 ^ 256)) / (10000000000000000000 % 2 ^ 256))) rfl sz24 (by first | decide | exact Nat.le_refl _ | exact Nat.le_of_ble_eq_true rfl | (simp [rowN]; done) | (simp [rowN]; omega)) (by first | exact rowN_one _ _ | (simp; done) | (intro u hu; simp at hu; subst hu; rfl) | (intro u hu; simp at hu; rcases hu with rfl | rfl <;> rfl)) (by first | decide | exact Nat.zero_lt_succ _ | simp) trivial (wc (((2 % 2 ^ 256 + 0 * 2 ^ 256)) / (10000000000000000000 % 2 ^ 256))) rfl ?_
  refine J.store 5 rfl rfl rfl rfl (wc (((2 % 2 ^ 256 + 0 * 2 ^ 256)) % (10000000000000000000 % 2 ^ 256))) rfl sz24 (by first | decide | exact Nat.le_refl _ | exact Nat.le_of_ble_eq_true rfl | (simp [rowN]; done) | (simp [rowN]; omega)) (by first | exact rowN_one _ _ | (simp; done) | (intro u hu; simp at hu; subst hu; rfl) | (intro u hu; simp at hu; rcases hu with rfl | rfl <;> rfl)) (by first | decide | exact Nat.zero_lt_succ _ | simp) trivial (wc (((2 % 2 ^ 256 + 0 * 2 ^ 256)) % (10000000000000000000 % 2 ^ 256))) rfl ?_
  refine J.end ?_
  refine X.then ?_
  refine T.seq ?_
  refine T.text [.l, .l, .l, .l] rfl ?_
  refine J.indexArr arr24 rfl rfl (by omega) (by omega) (by rfl) rfl ?_
  refine J.load1 (k := .l) trivial 5 rfl rfl one22 (by first | rfl | with_reducible exact rowN_get0 _ _ _ (by omega) | with_reducible exact rowN_get1 _ _ _ (by omega) | with_reducible exact rowN_get1s _ _ _ _ (by omega) | exact rowN_get1 _ _ _ (by omega) | exact rowN_get1s _ _ _ _ (by omega) | exact rowN_get0 _ _ _ (by omega)) rfl ?_
  refine J.as 15 (.int .u64 2) rfl (by rfl) ?_
  refine J.call0 (k := .l) trivial fok92 rfl rfl (fun w hw => Wt.format2 w) ?_
  refine J.assign rfl rfl ?_
  refine J.end ?_
  refine X.then ?_
  refine T.seq ?_
  refine T.seq ?_
  refine T.text [.l, .l] rfl ?_
  refine J.loadN (k := .l) trivial 4 rfl rfl agg24 (wc (((2 % 2 ^ 256 + 0 * 2 ^ 256)) / (10000000000000000000 % 2 ^ 256))) rfl rfl rfl ?_
  refine J.call0 (k := .l) trivial fok44 rfl rfl (fun w hw => Wa.IsZero w _) ?_
  refine J.as 18 (.bool true) rfl (by rw [decide_eq_true (by first | omega | rfl | assumption | (simp only [*]; done))]) ?_
  refine J.end ?_
  refine X.then ?_
  refine T.cond_true rfl ?_
  refine T.seq ?_
  refine T.text [.l, .l, .l, .l] rfl ?_
  refine J.move rfl rfl ?_
  refine J.move rfl rfl ?_
  refine J.addStr (xs := [50]) (ys := []) rfl rfl rfl (by decide) ?_
  refine J.assign rfl rfl ?_
  refine J.end ?_
  refine X.then ?_
  refine T.ret ?_
  refine X.then_ret (X.inBlock_ret (X.then_ret (X.inBlock_ret ?_)))
  exact X.ret1 rfl (RV.tmp rfl) (fun w' hw' => ⟨rfl, hw'.sub (Sub.nil _)⟩)
end Go.Proofs.YtegociefcfcihaaGreatDoor.Wt
