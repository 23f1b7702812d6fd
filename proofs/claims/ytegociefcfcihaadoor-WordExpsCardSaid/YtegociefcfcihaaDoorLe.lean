/-
  Walks, printed by gen.py: what each function hands back, said of numbers.
  Conditions: those that each theorem bears.
-/
import Derived.Test.YtegociefcfcihaaDoorChecked
import Derived.Test.YtegociefcfcihaaDoorFn
import Derived.Test.YtegociefcfcihaaDoorPy
import Derived.Test.YtegociefcfcihaaDoorWa
import Derived.Test.YtegociefcfcihaaDoorWb
import Derived.Test.YtegociefcfcihaaDoorWe
import Derived.Test.YtegociefcfcihaaDoorWh
import Derived.Test.YtegociefcfcihaaDoorWk
import Derived.Test.YtegociefcfcihaaDoorRa
import Derived.Test.YtegociefcfcihaaDoorRc
import Derived.Test.YtegociefcfcihaaDoorRd
import Derived.Test.YtegociefcfcihaaDoorRg
import Derived.Test.YtegociefcfcihaaDoorRh
set_option linter.unusedVariables false
set_option maxRecDepth 20000
namespace Go.Proofs.YtegociefcfcihaaDoor.Le
open Go Go.Fw

theorem sz39 : SizeT Tryd.prog 39 32 := (by unfold SizeT; kernel_rfl)
theorem zero8 : ZeroT Tryd.prog 67 (.agg (rowN .u64 (lg 0)).toArray) := (by unfold ZeroT; kernel_rfl)
theorem one25 : OneT Tryd.prog 25 := ⟨⟨_, Tryd.underlying25, rfl⟩, by kernel_rfl⟩
theorem one27 : OneT Tryd.prog 27 := ⟨⟨_, Tryd.underlying27, rfl⟩, by kernel_rfl⟩
theorem fok153 : FnOk Tryd.prog 153 := FnOk.mk' Tryd.func153 (by kernel_rfl) rfl
theorem fok23 : FnOk Tryd.prog 23 := FnOk.mk' Tryd.func23 (by kernel_rfl) rfl
theorem fok27 : FnOk Tryd.prog 27 := FnOk.mk' Tryd.func27 (by kernel_rfl) rfl
theorem fok25 : FnOk Tryd.prog 25 := FnOk.mk' Tryd.func25 (by kernel_rfl) rfl
theorem fok29 : FnOk Tryd.prog 29 := FnOk.mk' Tryd.func29 (by kernel_rfl) rfl
theorem fok34 : FnOk Tryd.prog 34 := FnOk.mk' Tryd.func34 (by kernel_rfl) rfl
theorem fok31 : FnOk Tryd.prog 31 := FnOk.mk' Tryd.func31 (by kernel_rfl) rfl
theorem fok36 : FnOk Tryd.prog 36 := FnOk.mk' Tryd.func36 (by kernel_rfl) rfl
theorem fok46 : FnOk Tryd.prog 46 := FnOk.mk' Tryd.func46 (by kernel_rfl) rfl
theorem fok48 : FnOk Tryd.prog 48 := FnOk.mk' Tryd.func48 (by kernel_rfl) rfl
theorem fok50 : FnOk Tryd.prog 50 := FnOk.mk' Tryd.func50 (by kernel_rfl) rfl
theorem fok44 : FnOk Tryd.prog 44 := FnOk.mk' Tryd.func44 (by kernel_rfl) rfl
theorem fok155 : FnOk Tryd.prog 155 := FnOk.mk' Tryd.func155 (by kernel_rfl) rfl
theorem fok54 : FnOk Tryd.prog 54 := FnOk.mk' Tryd.func54 (by kernel_rfl) rfl
theorem fok55 : FnOk Tryd.prog 55 := FnOk.mk' Tryd.func55 (by kernel_rfl) rfl
theorem fok38 : FnOk Tryd.prog 38 := FnOk.mk' Tryd.func38 (by kernel_rfl) rfl
theorem fok40 : FnOk Tryd.prog 40 := FnOk.mk' Tryd.func40 (by kernel_rfl) rfl
theorem fok79 : FnOk Tryd.prog 79 := FnOk.mk' Tryd.func79 (by kernel_rfl) rfl
theorem fok157 : FnOk Tryd.prog 157 := FnOk.mk' Tryd.func157 (by kernel_rfl) rfl
theorem fok62 : FnOk Tryd.prog 62 := FnOk.mk' Tryd.func62 (by kernel_rfl) rfl
theorem fok64 : FnOk Tryd.prog 64 := FnOk.mk' Tryd.func64 (by kernel_rfl) rfl
theorem fok66 : FnOk Tryd.prog 66 := FnOk.mk' Tryd.func66 (by kernel_rfl) rfl
theorem fok158 : FnOk Tryd.prog 158 := FnOk.mk' Tryd.func158 (by kernel_rfl) rfl
theorem fok69 : FnOk Tryd.prog 69 := FnOk.mk' Tryd.func69 (by kernel_rfl) rfl
theorem fok59 : FnOk Tryd.prog 59 := FnOk.mk' Tryd.func59 (by kernel_rfl) rfl
theorem fok60 : FnOk Tryd.prog 60 := FnOk.mk' Tryd.func60 (by kernel_rfl) rfl
theorem fok42 : FnOk Tryd.prog 42 := FnOk.mk' Tryd.func42 (by kernel_rfl) rfl
theorem fok159 : FnOk Tryd.prog 159 := FnOk.mk' Tryd.func159 (by kernel_rfl) rfl
theorem func98T : FuncT Tryd.prog 98 := ⟨_, _, _, Tryd.underlying98⟩
theorem fok148 : FnOk Tryd.prog 148 := FnOk.mk' Tryd.func148 (by kernel_rfl) rfl
theorem agg24 : AggT Tryd.prog 24 4 := ⟨⟨_, Tryd.underlying24, rfl⟩, by kernel_rfl⟩
theorem fok51 : FnOk Tryd.prog 51 := FnOk.mk' Tryd.func51 (by kernel_rfl) rfl
theorem sz22 : SizeT Tryd.prog 22 1 := (by unfold SizeT; kernel_rfl)
theorem arr24 : ArrT Tryd.prog 24 4 22 1 := ⟨Tryd.underlying24, sz22⟩
theorem one22 : OneT Tryd.prog 22 := ⟨⟨_, Tryd.underlying22, rfl⟩, by kernel_rfl⟩
theorem eqw24 : EqT Tryd.prog 24 := ⟨⟨22, arr24, one22, Tryd.underlying22⟩, by kernel_rfl⟩
theorem fok33 : FnOk Tryd.prog 33 := FnOk.mk' Tryd.func33 (by kernel_rfl) rfl

theorem WordExps (w : World) (x0 : Nat) (x1 : Nat) :
    Calls Tryd.prog 6 [W x0, W x1].toArray w fun e w' => e = .returned (.bool true) ∧ WS w [] [] w' := by
  refine calls_of_T [] 15 [] Tryd.func6 rfl Tryd.ntmps6 (by simp) (WS.refl _ _) ?_
  refine T.seq ?_
  refine T.text [.l, .l, .l] rfl ?_
  refine J.box 2 rfl rfl (wc x0) rfl rfl (fun g2 hg2 => ?_)
  refine J.box 3 rfl rfl (wc x1) rfl rfl (fun g3 hg3 => ?_)
  refine J.assign rfl rfl ?_
  refine J.end ?_
  refine X.then ?_
  refine T.seq ?_
  refine T.draw [] [(0, .q), (1, .q), (2, .q), (3, .q), (4, .q), (5, .q), (6, .g), (7, .g), (8, .q), (9, .g), (10, .g)] (by kernel_rfl) (by kernel_rfl) ?_ (by repeat (first | exact Sub.nil _ | refine Sub.cons (by first | rfl | (rw [dgs_zero]; rfl) | (rw [List.drop_length]; rfl) | (simp; done) | (congr 2; omega) | (congr 3; omega)) ?_))
  refine J.loadN (k := .q) trivial 2 rfl rfl agg24 (wc x0) rfl rfl rfl ?_
  refine J.loadN (k := .q) trivial 3 rfl rfl agg24 (wc x1) rfl rfl rfl ?_
  refine J.call0 (k := .q) trivial fok50 rfl rfl (fun w hw => We.Exp w _ _) ?_
  refine J.loadN (k := .q) trivial 2 rfl rfl agg24 (wc x0) rfl rfl rfl ?_
  refine J.loadN (k := .q) trivial 3 rfl rfl agg24 (wc x1) rfl rfl rfl ?_
  refine J.call0 (k := .q) trivial fok51 rfl rfl (fun w hw => Rh.Exp w _ _) ?_
  refine J.eqW eqw24 rfl rfl rfl ?_
  refine J.as 11 (.bool true) rfl (by rw [decide_eq_true (by rfl)]) ?_
  refine J.move rfl rfl ?_
  refine J.yes rfl rfl ?_
  refine J.call0 (k := .q) trivial fok33 rfl rfl (fun w hw => Wk.awake w) ?_
  refine J.pick_t rfl rfl rfl ?_
  refine J.assign rfl rfl ?_
  refine J.end ?_
  refine X.then ?_
  refine T.ret ?_
  exact X.ret1 rfl (RV.tmp rfl) (fun w' hw' => ⟨rfl, hw'.sub (Sub.nil _)⟩)
end Go.Proofs.YtegociefcfcihaaDoor.Le
