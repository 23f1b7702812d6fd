/-
  Walks, printed by gen.py: what each function hands back, said of numbers.
  Conditions: those that each theorem bears.
-/
import Derived.Test.YtegociefcfcihaaGreatDoorChecked
import Derived.Test.YtegociefcfcihaaGreatDoorFu
import Derived.Test.YtegociefcfcihaaGreatDoorWa
import Derived.Test.YtegociefcfcihaaGreatDoorWb
import Derived.Test.YtegociefcfcihaaGreatDoorWe
import Derived.Test.YtegociefcfcihaaGreatDoorWh
import Derived.Test.YtegociefcfcihaaGreatDoorWt
set_option linter.unusedVariables false
set_option maxRecDepth 20000
namespace Go.Proofs.YtegociefcfcihaaGreatDoor.Wk
open Go Go.Fw

theorem sz73 : SizeT Tryz.prog 73 32 := (by unfold SizeT; kernel_rfl)
theorem zero8 : ZeroT Tryz.prog 68 (.agg (rowN .u64 (lg 0)).toArray) := (by unfold ZeroT; kernel_rfl)
theorem one37 : OneT Tryz.prog 37 := ⟨⟨_, Tryz.underlying37, rfl⟩, by kernel_rfl⟩
theorem one41 : OneT Tryz.prog 41 := ⟨⟨_, Tryz.underlying41, rfl⟩, by kernel_rfl⟩
theorem fok24 : FnOk Tryz.prog 24 := FnOk.mk' Tryz.func24 (by kernel_rfl) rfl
theorem fok21 : FnOk Tryz.prog 21 := FnOk.mk' Tryz.func21 (by kernel_rfl) rfl
theorem fok28 : FnOk Tryz.prog 28 := FnOk.mk' Tryz.func28 (by kernel_rfl) rfl
theorem fok29 : FnOk Tryz.prog 29 := FnOk.mk' Tryz.func29 (by kernel_rfl) rfl
theorem fok30 : FnOk Tryz.prog 30 := FnOk.mk' Tryz.func30 (by kernel_rfl) rfl
theorem fok31 : FnOk Tryz.prog 31 := FnOk.mk' Tryz.func31 (by kernel_rfl) rfl
theorem fok32 : FnOk Tryz.prog 32 := FnOk.mk' Tryz.func32 (by kernel_rfl) rfl
theorem fok33 : FnOk Tryz.prog 33 := FnOk.mk' Tryz.func33 (by kernel_rfl) rfl
theorem fok34 : FnOk Tryz.prog 34 := FnOk.mk' Tryz.func34 (by kernel_rfl) rfl
theorem fok35 : FnOk Tryz.prog 35 := FnOk.mk' Tryz.func35 (by kernel_rfl) rfl
theorem fok36 : FnOk Tryz.prog 36 := FnOk.mk' Tryz.func36 (by kernel_rfl) rfl
theorem fok37 : FnOk Tryz.prog 37 := FnOk.mk' Tryz.func37 (by kernel_rfl) rfl
theorem fok26 : FnOk Tryz.prog 26 := FnOk.mk' Tryz.func26 (by kernel_rfl) rfl
theorem fok38 : FnOk Tryz.prog 38 := FnOk.mk' Tryz.func38 (by kernel_rfl) rfl
theorem fok39 : FnOk Tryz.prog 39 := FnOk.mk' Tryz.func39 (by kernel_rfl) rfl
theorem fok40 : FnOk Tryz.prog 40 := FnOk.mk' Tryz.func40 (by kernel_rfl) rfl
theorem fok41 : FnOk Tryz.prog 41 := FnOk.mk' Tryz.func41 (by kernel_rfl) rfl
theorem fok42 : FnOk Tryz.prog 42 := FnOk.mk' Tryz.func42 (by kernel_rfl) rfl
theorem fok43 : FnOk Tryz.prog 43 := FnOk.mk' Tryz.func43 (by kernel_rfl) rfl
theorem fok45 : FnOk Tryz.prog 45 := FnOk.mk' Tryz.func45 (by kernel_rfl) rfl
theorem fok46 : FnOk Tryz.prog 46 := FnOk.mk' Tryz.func46 (by kernel_rfl) rfl
theorem fok47 : FnOk Tryz.prog 47 := FnOk.mk' Tryz.func47 (by kernel_rfl) rfl
theorem fok48 : FnOk Tryz.prog 48 := FnOk.mk' Tryz.func48 (by kernel_rfl) rfl
theorem fok50 : FnOk Tryz.prog 50 := FnOk.mk' Tryz.func50 (by kernel_rfl) rfl
theorem fok51 : FnOk Tryz.prog 51 := FnOk.mk' Tryz.func51 (by kernel_rfl) rfl
theorem fok52 : FnOk Tryz.prog 52 := FnOk.mk' Tryz.func52 (by kernel_rfl) rfl
theorem fok53 : FnOk Tryz.prog 53 := FnOk.mk' Tryz.func53 (by kernel_rfl) rfl
theorem fok54 : FnOk Tryz.prog 54 := FnOk.mk' Tryz.func54 (by kernel_rfl) rfl
theorem func34T : FuncT Tryz.prog 34 := ⟨_, _, _, Tryz.underlying34⟩
theorem fok8 : FnOk Tryz.prog 8 := FnOk.mk' Tryz.func8 (by kernel_rfl) rfl
theorem zero24 : ZeroT Tryz.prog 24 (.agg ([.int .u64 0, .int .u64 0, .int .u64 0, .int .u64 0]).toArray) := (by unfold ZeroT; kernel_rfl)
theorem sz24 : SizeT Tryz.prog 24 4 := (by unfold SizeT; kernel_rfl)
theorem agg24 : AggT Tryz.prog 24 4 := ⟨⟨_, Tryz.underlying24, rfl⟩, by kernel_rfl⟩
theorem fok5 : FnOk Tryz.prog 5 := FnOk.mk' Tryz.func5 (by kernel_rfl) rfl
theorem sz22 : SizeT Tryz.prog 22 1 := (by unfold SizeT; kernel_rfl)
theorem arr24 : ArrT Tryz.prog 24 4 22 1 := ⟨Tryz.underlying24, sz22⟩
theorem one22 : OneT Tryz.prog 22 := ⟨⟨_, Tryz.underlying22, rfl⟩, by kernel_rfl⟩
theorem eqw24 : EqT Tryz.prog 24 := ⟨⟨22, arr24, one22, Tryz.underlying22⟩, by kernel_rfl⟩
theorem fok22 : FnOk Tryz.prog 22 := FnOk.mk' Tryz.func22 (by kernel_rfl) rfl

theorem awake (w : World) :
    Calls Tryz.prog 7 [].toArray w fun e w' => e = .returned (.bool true) ∧ WS w [] [] w' := by
  refine calls_of_T [] 30 [] Tryz.func7 rfl Tryz.ntmps7 (by simp) (WS.refl _ _) ?_
  refine T.seq ?_
  refine T.text [.l] rfl ?_
  refine J.assign rfl rfl ?_
  refine J.end ?_
  refine X.then ?_
  refine T.seq ?_
  refine T.text [.l, .l, .l] rfl ?_
  refine J.build rfl rfl (W 2) (fun w => by kernel_rfl) ?_
  refine J.alloc 1 rfl zero24 [.int .u64 0, .int .u64 0, .int .u64 0, .int .u64 0] rfl rfl (fun g1 hg1 => ?_)
  refine J.store 1 rfl rfl rfl rfl (wc 2) rfl sz24 (by first | decide | exact Nat.le_refl _ | exact Nat.le_of_ble_eq_true rfl | (simp [rowN]; done) | (simp [rowN]; omega)) (by first | exact rowN_one _ _ | (simp; done) | (intro u hu; simp at hu; subst hu; rfl) | (intro u hu; simp at hu; rcases hu with rfl | rfl <;> rfl)) (by first | decide | exact Nat.zero_lt_succ _ | simp) trivial (wc 2) rfl ?_
  refine J.end ?_
  refine X.then ?_
  refine T.seq ?_
  refine T.text [.l, .l, .l, .l, .l, .l, .l, .l, .l, .l] rfl ?_
  refine J.loadN (k := .l) trivial 1 rfl rfl agg24 (wc 2) rfl rfl rfl ?_
  refine J.loadN (k := .l) trivial 1 rfl rfl agg24 (wc 2) rfl rfl rfl ?_
  refine J.loadN (k := .l) trivial 1 rfl rfl agg24 (wc 2) rfl rfl rfl ?_
  refine J.call0 (k := .l) trivial fok5 rfl rfl (fun w hw => Wh.DoYes w 1 _ _ _ _ rfl) ?_
  refine J.move rfl rfl ?_
  refine J.extract rfl rfl rfl ?_
  refine J.extract rfl rfl rfl ?_
  refine J.alloc 2 rfl zero24 [.int .u64 0, .int .u64 0, .int .u64 0, .int .u64 0] rfl rfl (fun g2 hg2 => ?_)
  refine J.store 2 rfl rfl rfl rfl (wc (2 + 2)) rfl sz24 (by first | decide | exact Nat.le_refl _ | exact Nat.le_of_ble_eq_true rfl | (simp [rowN]; done) | (simp [rowN]; omega)) (by first | exact rowN_one _ _ | (simp; done) | (intro u hu; simp at hu; subst hu; rfl) | (intro u hu; simp at hu; rcases hu with rfl | rfl <;> rfl)) (by first | decide | exact Nat.zero_lt_succ _ | simp) trivial (wc (2 + 2)) rfl ?_
  refine J.assign rfl rfl ?_
  refine J.end ?_
  refine X.then ?_
  refine T.seq ?_
  refine T.text [.l, .l, .l, .l, .l, .l, .l, .l, .l, .l, .l, .l, .l, .l, .l, .l, .l, .l, .l] rfl ?_
  refine J.loadN (k := .l) trivial 1 rfl rfl agg24 (wc 2) rfl rfl rfl ?_
  refine J.loadN (k := .l) trivial 1 rfl rfl agg24 (wc 2) rfl rfl rfl ?_
  refine J.call0 (k := .l) trivial fok21 rfl rfl (fun w hw => Wb.Add w _ _) ?_
  refine J.build rfl rfl (W 4) (fun w => by kernel_rfl) ?_
  refine J.eqW eqw24 rfl rfl rfl ?_
  refine J.as 16 (.bool true) rfl (by rw [decide_eq_true (by first | omega | rfl | assumption | (simp only [*]; done))]) ?_
  refine J.move rfl rfl ?_
  refine J.yes rfl rfl ?_
  refine J.move rfl rfl ?_
  refine J.pick_t rfl rfl rfl ?_
  refine J.move rfl rfl ?_
  refine J.yes rfl rfl ?_
  refine J.loadN (k := .l) trivial 2 rfl rfl agg24 (wc (2 + 2)) rfl rfl rfl ?_
  refine J.yes rfl rfl ?_
  refine J.build rfl rfl (W 4) (fun w => by kernel_rfl) ?_
  refine J.yes rfl rfl ?_
  refine J.eqW eqw24 rfl rfl rfl ?_
  refine J.as 23 (.bool true) rfl (by rw [decide_eq_true (by first | omega | rfl | assumption | (simp only [*]; done))]) ?_
  refine J.pick_t rfl rfl rfl ?_
  refine J.move rfl rfl ?_
  refine J.yes rfl rfl ?_
  refine J.loadN (k := .l) trivial 1 rfl rfl agg24 (wc 2) rfl rfl rfl ?_
  refine J.yes rfl rfl ?_
  refine J.call0 (k := .l) trivial fok22 rfl rfl (fun w hw => Wt.text2 w) ?_
  refine J.yes rfl rfl ?_
  refine J.eqStr (xs := [50]) (ys := [50]) rfl rfl rfl (by intro u hu; simp at hu; omega) (by intro u hu; simp at hu; omega) ?_
  refine J.as 28 (.bool true) rfl rfl ?_
  refine J.pick_t rfl rfl rfl ?_
  refine J.assign rfl rfl ?_
  refine J.end ?_
  refine X.then ?_
  refine T.ret ?_
  exact X.ret1 rfl (RV.tmp rfl) (fun w' hw' => ⟨rfl, hw'.sub (Sub.nil _)⟩)
end Go.Proofs.YtegociefcfcihaaGreatDoor.Wk
