/-
  Walks, printed by gen.py: what each function hands back, said of numbers.
  Conditions: those that each theorem bears.
-/
import Derived.Test.YtegociefcfcihaaDoorChecked
import Derived.Test.YtegociefcfcihaaDoorFn
import Derived.Test.YtegociefcfcihaaDoorPz
import Derived.Test.YtegociefcfcihaaDoorWa
import Derived.Test.YtegociefcfcihaaDoorWb
import Derived.Test.YtegociefcfcihaaDoorWe
import Derived.Test.YtegociefcfcihaaDoorWh
import Derived.Test.YtegociefcfcihaaDoorWk
import Derived.Test.YtegociefcfcihaaDoorRa
import Derived.Test.YtegociefcfcihaaDoorRc
import Derived.Test.YtegociefcfcihaaDoorRg
import Derived.Test.YtegociefcfcihaaDoorRh
import Derived.Test.YtegociefcfcihaaDoorRj
import Derived.Test.YtegociefcfcihaaDoorRl
import Derived.Test.YtegociefcfcihaaDoorRm
set_option linter.unusedVariables false
set_option maxRecDepth 20000
namespace Go.Proofs.YtegociefcfcihaaDoor.Lb
open Go Go.Fw

theorem sz39 : SizeT Tryd.prog 39 32 := (by unfold SizeT; kernel_rfl)
theorem zero8 : ZeroT Tryd.prog 67 (.agg (rowN .u64 (lg 0)).toArray) := (by unfold ZeroT; kernel_rfl)
theorem one25 : OneT Tryd.prog 25 := ⟨⟨_, Tryd.underlying25, rfl⟩, by kernel_rfl⟩
theorem one27 : OneT Tryd.prog 27 := ⟨⟨_, Tryd.underlying27, rfl⟩, by kernel_rfl⟩
theorem fok153 : FnOk Tryd.prog 153 := FnOk.mk' Tryd.func153 (by kernel_rfl) rfl
theorem fok23 : FnOk Tryd.prog 23 := FnOk.mk' Tryd.func23 (by kernel_rfl) rfl
theorem fok27 : FnOk Tryd.prog 27 := FnOk.mk' Tryd.func27 (by kernel_rfl) rfl
theorem fok25 : FnOk Tryd.prog 25 := FnOk.mk' Tryd.func25 (by kernel_rfl) rfl
theorem fok29 : FnOk Tryd.prog 29 := FnOk.mk' Tryd.func29 (by kernel_rfl) rfl
theorem fok34 : FnOk Tryd.prog 34 := FnOk.mk' Tryd.func34 (by kernel_rfl) rfl
theorem fok31 : FnOk Tryd.prog 31 := FnOk.mk' Tryd.func31 (by kernel_rfl) rfl
theorem fok36 : FnOk Tryd.prog 36 := FnOk.mk' Tryd.func36 (by kernel_rfl) rfl
theorem fok46 : FnOk Tryd.prog 46 := FnOk.mk' Tryd.func46 (by kernel_rfl) rfl
theorem fok48 : FnOk Tryd.prog 48 := FnOk.mk' Tryd.func48 (by kernel_rfl) rfl
theorem fok50 : FnOk Tryd.prog 50 := FnOk.mk' Tryd.func50 (by kernel_rfl) rfl
theorem fok44 : FnOk Tryd.prog 44 := FnOk.mk' Tryd.func44 (by kernel_rfl) rfl
theorem fok155 : FnOk Tryd.prog 155 := FnOk.mk' Tryd.func155 (by kernel_rfl) rfl
theorem fok54 : FnOk Tryd.prog 54 := FnOk.mk' Tryd.func54 (by kernel_rfl) rfl
theorem fok55 : FnOk Tryd.prog 55 := FnOk.mk' Tryd.func55 (by kernel_rfl) rfl
theorem fok38 : FnOk Tryd.prog 38 := FnOk.mk' Tryd.func38 (by kernel_rfl) rfl
theorem fok40 : FnOk Tryd.prog 40 := FnOk.mk' Tryd.func40 (by kernel_rfl) rfl
theorem fok79 : FnOk Tryd.prog 79 := FnOk.mk' Tryd.func79 (by kernel_rfl) rfl
theorem fok157 : FnOk Tryd.prog 157 := FnOk.mk' Tryd.func157 (by kernel_rfl) rfl
theorem fok62 : FnOk Tryd.prog 62 := FnOk.mk' Tryd.func62 (by kernel_rfl) rfl
theorem fok64 : FnOk Tryd.prog 64 := FnOk.mk' Tryd.func64 (by kernel_rfl) rfl
theorem fok66 : FnOk Tryd.prog 66 := FnOk.mk' Tryd.func66 (by kernel_rfl) rfl
theorem fok158 : FnOk Tryd.prog 158 := FnOk.mk' Tryd.func158 (by kernel_rfl) rfl
theorem fok69 : FnOk Tryd.prog 69 := FnOk.mk' Tryd.func69 (by kernel_rfl) rfl
theorem fok59 : FnOk Tryd.prog 59 := FnOk.mk' Tryd.func59 (by kernel_rfl) rfl
theorem fok60 : FnOk Tryd.prog 60 := FnOk.mk' Tryd.func60 (by kernel_rfl) rfl
theorem fok42 : FnOk Tryd.prog 42 := FnOk.mk' Tryd.func42 (by kernel_rfl) rfl
theorem fok159 : FnOk Tryd.prog 159 := FnOk.mk' Tryd.func159 (by kernel_rfl) rfl
theorem func98T : FuncT Tryd.prog 98 := ⟨_, _, _, Tryd.underlying98⟩
theorem fok148 : FnOk Tryd.prog 148 := FnOk.mk' Tryd.func148 (by kernel_rfl) rfl
theorem zero256 : ZeroT Tryd.prog 78 (.agg (rowN .i64 (List.replicate 256 0)).toArray) := (by unfold ZeroT; kernel_rfl)
theorem sz78 : SizeT Tryd.prog 78 256 := (by unfold SizeT; kernel_rfl)
theorem agg24 : AggT Tryd.prog 24 4 := ⟨⟨_, Tryd.underlying24, rfl⟩, by kernel_rfl⟩
theorem fok63 : FnOk Tryd.prog 63 := FnOk.mk' Tryd.func63 (by kernel_rfl) rfl
theorem sz22 : SizeT Tryd.prog 22 1 := (by unfold SizeT; kernel_rfl)
theorem arr24 : ArrT Tryd.prog 24 4 22 1 := ⟨Tryd.underlying24, sz22⟩
theorem one22 : OneT Tryd.prog 22 := ⟨⟨_, Tryd.underlying22, rfl⟩, by kernel_rfl⟩
theorem eqw24 : EqT Tryd.prog 24 := ⟨⟨22, arr24, one22, Tryd.underlying22⟩, by kernel_rfl⟩
theorem fok65 : FnOk Tryd.prog 65 := FnOk.mk' Tryd.func65 (by kernel_rfl) rfl
theorem fok67 : FnOk Tryd.prog 67 := FnOk.mk' Tryd.func67 (by kernel_rfl) rfl
theorem fok61 : FnOk Tryd.prog 61 := FnOk.mk' Tryd.func61 (by kernel_rfl) rfl
theorem fok68 : FnOk Tryd.prog 68 := FnOk.mk' Tryd.func68 (by kernel_rfl) rfl
theorem fok70 : FnOk Tryd.prog 70 := FnOk.mk' Tryd.func70 (by kernel_rfl) rfl
theorem fok71 : FnOk Tryd.prog 71 := FnOk.mk' Tryd.func71 (by kernel_rfl) rfl
theorem fok72 : FnOk Tryd.prog 72 := FnOk.mk' Tryd.func72 (by kernel_rfl) rfl
theorem fok73 : FnOk Tryd.prog 73 := FnOk.mk' Tryd.func73 (by kernel_rfl) rfl
theorem fok74 : FnOk Tryd.prog 74 := FnOk.mk' Tryd.func74 (by kernel_rfl) rfl
theorem fok75 : FnOk Tryd.prog 75 := FnOk.mk' Tryd.func75 (by kernel_rfl) rfl
theorem fok76 : FnOk Tryd.prog 76 := FnOk.mk' Tryd.func76 (by kernel_rfl) rfl
theorem fok33 : FnOk Tryd.prog 33 := FnOk.mk' Tryd.func33 (by kernel_rfl) rfl

theorem WordBits (w : World) (x0 : Nat) (x1 : Nat) :
    Calls Tryd.prog 14 [W x0, W x1].toArray w fun e w' => e = .returned (.bool true) ∧ WS w [] [] w' := by
  refine calls_of_T [] 77 [] Tryd.func14 rfl Tryd.ntmps14 (by simp) (WS.refl _ _) ?_
  refine T.seq ?_
  refine T.text [.l, .l, .l] rfl ?_
  refine J.box 2 rfl rfl (wc x0) rfl rfl (fun g2 hg2 => ?_)
  refine J.box 3 rfl rfl (wc x1) rfl rfl (fun g3 hg3 => ?_)
  refine J.assign rfl rfl ?_
  refine J.end ?_
  refine X.then ?_
  refine T.seq ?_
  refine T.seq ?_
  refine T.draw [] [(0, .q), (1, .q), (2, .q), (3, .q), (4, .q), (5, .q), (6, .g), (7, .g), (8, .q), (9, .q), (10, .q), (11, .q), (12, .q), (13, .q), (14, .g), (15, .g), (16, .g), (17, .q), (18, .q), (19, .q), (20, .q), (21, .q), (22, .q), (23, .g), (24, .g), (25, .g), (26, .q), (27, .q), (28, .q), (29, .q), (30, .g), (31, .g)] (by kernel_rfl) (by kernel_rfl) ?_ (by repeat (first | exact Sub.nil _ | refine Sub.cons (by first | rfl | (rw [dgs_zero]; rfl) | (rw [List.drop_length]; rfl) | (simp; done) | (congr 2; omega) | (congr 3; omega)) ?_))
  refine J.loadN (k := .q) trivial 2 rfl rfl agg24 (wc x0) rfl rfl rfl ?_
  refine J.loadN (k := .q) trivial 3 rfl rfl agg24 (wc x1) rfl rfl rfl ?_
  refine J.call0 (k := .q) trivial fok62 rfl rfl (fun w hw => We.And w _ _) ?_
  refine J.loadN (k := .q) trivial 2 rfl rfl agg24 (wc x0) rfl rfl rfl ?_
  refine J.loadN (k := .q) trivial 3 rfl rfl agg24 (wc x1) rfl rfl rfl ?_
  refine J.call0 (k := .q) trivial fok63 rfl rfl (fun w hw => Rl.And w _ _) ?_
  refine J.neqW eqw24 rfl rfl rfl ?_
  refine J.as 11 (.bool false) rfl (by rw [decide_eq_false (by refine not_not_intro ?_; rfl)]) ?_
  refine J.move rfl rfl ?_
  refine J.yes rfl rfl ?_
  refine J.loadN (k := .q) trivial 2 rfl rfl agg24 (wc x0) rfl rfl rfl ?_
  refine J.yes rfl rfl ?_
  refine J.loadN (k := .q) trivial 3 rfl rfl agg24 (wc x1) rfl rfl rfl ?_
  refine J.yes rfl rfl ?_
  refine J.call0 (k := .q) trivial fok64 rfl rfl (fun w hw => We.Or w _ _) ?_
  refine J.yes rfl rfl ?_
  refine J.loadN (k := .q) trivial 2 rfl rfl agg24 (wc x0) rfl rfl rfl ?_
  refine J.yes rfl rfl ?_
  refine J.loadN (k := .q) trivial 3 rfl rfl agg24 (wc x1) rfl rfl rfl ?_
  refine J.yes rfl rfl ?_
  refine J.call0 (k := .q) trivial fok65 rfl rfl (fun w hw => Rl.Or w _ _) ?_
  refine J.yes rfl rfl ?_
  refine J.neqW eqw24 rfl rfl rfl ?_
  refine J.as 19 (.bool false) rfl (by rw [decide_eq_false (by refine not_not_intro ?_; rfl)]) ?_
  refine J.pick_f rfl rfl rfl ?_
  refine J.move rfl rfl ?_
  refine J.yes rfl rfl ?_
  refine J.loadN (k := .q) trivial 2 rfl rfl agg24 (wc x0) rfl rfl rfl ?_
  refine J.yes rfl rfl ?_
  refine J.loadN (k := .q) trivial 3 rfl rfl agg24 (wc x1) rfl rfl rfl ?_
  refine J.yes rfl rfl ?_
  refine J.call0 (k := .q) trivial fok66 rfl rfl (fun w hw => We.Xor w _ _) ?_
  refine J.yes rfl rfl ?_
  refine J.loadN (k := .q) trivial 2 rfl rfl agg24 (wc x0) rfl rfl rfl ?_
  refine J.yes rfl rfl ?_
  refine J.loadN (k := .q) trivial 3 rfl rfl agg24 (wc x1) rfl rfl rfl ?_
  refine J.yes rfl rfl ?_
  refine J.call0 (k := .q) trivial fok67 rfl rfl (fun w hw => Rl.Xor w _ _) ?_
  refine J.yes rfl rfl ?_
  refine J.neqW eqw24 rfl rfl rfl ?_
  refine J.as 28 (.bool false) rfl (by rw [decide_eq_false (by refine not_not_intro ?_; rfl)]) ?_
  refine J.pick_f rfl rfl rfl ?_
  refine J.move rfl rfl ?_
  refine J.yes rfl rfl ?_
  refine J.loadN (k := .q) trivial 2 rfl rfl agg24 (wc x0) rfl rfl rfl ?_
  refine J.yes rfl rfl ?_
  refine J.call0 (k := .q) trivial fok61 rfl rfl (fun w hw => We.Not w _) ?_
  refine J.yes rfl rfl ?_
  refine J.loadN (k := .q) trivial 2 rfl rfl agg24 (wc x0) rfl rfl rfl ?_
  refine J.yes rfl rfl ?_
  refine J.call0 (k := .q) trivial fok68 rfl rfl (fun w hw => Rl.Not w _) ?_
  refine J.yes rfl rfl ?_
  refine J.neqW eqw24 rfl rfl rfl ?_
  refine J.as 35 (.bool false) rfl (by rw [decide_eq_false (by refine not_not_intro ?_; rfl)]) ?_
  refine J.pick_f rfl rfl rfl ?_
  refine J.end ?_
  refine X.then ?_
  refine T.cond_false rfl ?_
  refine T.skip ?_
  refine X.then ?_
  refine T.seq ?_
  refine T.seq ?_
  refine T.draw [] [(0, .q), (1, .q), (2, .q), (3, .q), (4, .q), (5, .q), (6, .g), (7, .g), (8, .q), (9, .q), (10, .q), (11, .q), (12, .q), (13, .q), (14, .g), (15, .g), (16, .g), (17, .q), (18, .q), (19, .q), (20, .q), (21, .q), (22, .q), (23, .g), (24, .g)] (by kernel_rfl) (by kernel_rfl) ?_ (by repeat (first | exact Sub.nil _ | refine Sub.cons (by first | rfl | (rw [dgs_zero]; rfl) | (rw [List.drop_length]; rfl) | (simp; done) | (congr 2; omega) | (congr 3; omega)) ?_))
  refine J.loadN (k := .q) trivial 2 rfl rfl agg24 (wc x0) rfl rfl rfl ?_
  refine J.loadN (k := .q) trivial 3 rfl rfl agg24 (wc x1) rfl rfl rfl ?_
  refine J.call0 (k := .q) trivial fok69 rfl rfl (fun w hw => We.Byte w _ _) ?_
  refine J.loadN (k := .q) trivial 2 rfl rfl agg24 (wc x0) rfl rfl rfl ?_
  refine J.loadN (k := .q) trivial 3 rfl rfl agg24 (wc x1) rfl rfl rfl ?_
  refine J.call0 (k := .q) trivial fok70 rfl rfl (fun w hw => Rm.Byte w _ _) ?_
  refine J.neqW eqw24 rfl rfl rfl ?_
  refine J.as 43 (.bool false) rfl (by rw [decide_eq_false (by refine not_not_intro ?_; rfl)]) ?_
  refine J.move rfl rfl ?_
  refine J.yes rfl rfl ?_
  refine J.loadN (k := .q) trivial 2 rfl rfl agg24 (wc x0) rfl rfl rfl ?_
  refine J.yes rfl rfl ?_
  refine J.loadN (k := .q) trivial 3 rfl rfl agg24 (wc x1) rfl rfl rfl ?_
  refine J.yes rfl rfl ?_
  refine J.call0 (k := .q) trivial fok59 rfl rfl (fun w hw => We.Shl w _ _) ?_
  refine J.yes rfl rfl ?_
  refine J.loadN (k := .q) trivial 2 rfl rfl agg24 (wc x0) rfl rfl rfl ?_
  refine J.yes rfl rfl ?_
  refine J.loadN (k := .q) trivial 3 rfl rfl agg24 (wc x1) rfl rfl rfl ?_
  refine J.yes rfl rfl ?_
  refine J.call0 (k := .q) trivial fok71 rfl rfl (fun w hw => Rl.Shl w _ _) ?_
  refine J.yes rfl rfl ?_
  refine J.neqW eqw24 rfl rfl rfl ?_
  refine J.as 51 (.bool false) rfl (by rw [decide_eq_false (by refine not_not_intro ?_; rfl)]) ?_
  refine J.pick_f rfl rfl rfl ?_
  refine J.move rfl rfl ?_
  refine J.yes rfl rfl ?_
  refine J.loadN (k := .q) trivial 2 rfl rfl agg24 (wc x0) rfl rfl rfl ?_
  refine J.yes rfl rfl ?_
  refine J.loadN (k := .q) trivial 3 rfl rfl agg24 (wc x1) rfl rfl rfl ?_
  refine J.yes rfl rfl ?_
  refine J.call0 (k := .q) trivial fok60 rfl rfl (fun w hw => We.Shr w _ _) ?_
  refine J.yes rfl rfl ?_
  refine J.loadN (k := .q) trivial 2 rfl rfl agg24 (wc x0) rfl rfl rfl ?_
  refine J.yes rfl rfl ?_
  refine J.loadN (k := .q) trivial 3 rfl rfl agg24 (wc x1) rfl rfl rfl ?_
  refine J.yes rfl rfl ?_
  refine J.call0 (k := .q) trivial fok72 rfl rfl (fun w hw => Rm.Shr w _ _) ?_
  refine J.yes rfl rfl ?_
  refine J.neqW eqw24 rfl rfl rfl ?_
  refine J.as 60 (.bool false) rfl (by rw [decide_eq_false (by refine not_not_intro ?_; rfl)]) ?_
  refine J.pick_f rfl rfl rfl ?_
  refine J.end ?_
  refine X.then ?_
  refine T.cond_false rfl ?_
  refine T.skip ?_
  refine X.then ?_
  refine T.seq ?_
  refine T.draw [] [(0, .q), (1, .q), (2, .q), (3, .q), (4, .g), (5, .g), (6, .q), (7, .q), (8, .q), (9, .q), (10, .g), (11, .g), (12, .g), (13, .q), (14, .g), (15, .g)] (by kernel_rfl) (by kernel_rfl) ?_ (by repeat (first | exact Sub.nil _ | refine Sub.cons (by first | rfl | (rw [dgs_zero]; rfl) | (rw [List.drop_length]; rfl) | (simp; done) | (congr 2; omega) | (congr 3; omega)) ?_))
  refine J.loadN (k := .q) trivial 2 rfl rfl agg24 (wc x0) rfl rfl rfl ?_
  refine J.call0 (k := .q) trivial fok73 rfl rfl (fun w hw => We.Clz w _) ?_
  refine J.loadN (k := .q) trivial 2 rfl rfl agg24 (wc x0) rfl rfl rfl ?_
  refine J.call0 (k := .q) trivial fok74 rfl rfl (fun w hw => Rm.Clz w _) ?_
  refine J.eqW eqw24 rfl rfl rfl ?_
  refine J.as 66 (.bool true) rfl (by rw [decide_eq_true (by rfl)]) ?_
  refine J.move rfl rfl ?_
  refine J.yes rfl rfl ?_
  refine J.loadN (k := .q) trivial 2 rfl rfl agg24 (wc x0) rfl rfl rfl ?_
  refine J.yes rfl rfl ?_
  refine J.call0 (k := .q) trivial fok75 rfl rfl (fun w hw => Wa.Size w _) ?_
  refine J.yes rfl rfl ?_
  refine J.loadN (k := .q) trivial 2 rfl rfl agg24 (wc x0) rfl rfl rfl ?_
  refine J.yes rfl rfl ?_
  refine J.call0 (k := .q) trivial fok76 rfl rfl (fun w hw => Ra.Size w _) ?_
  refine J.yes rfl rfl ?_
  refine J.eql rfl rfl rfl rfl ?_
  refine J.as 72 (.bool true) rfl (by rw [decide_eq_true (by rfl)]) ?_
  refine J.pick_t rfl rfl rfl ?_
  refine J.move rfl rfl ?_
  refine J.yes rfl rfl ?_
  refine J.call0 (k := .q) trivial fok33 rfl rfl (fun w hw => Wk.awake w) ?_
  refine J.pick_t rfl rfl rfl ?_
  refine J.assign rfl rfl ?_
  refine J.end ?_
  refine X.then ?_
  refine T.ret ?_
  exact X.ret1 rfl (RV.tmp rfl) (fun w' hw' => ⟨rfl, hw'.sub (Sub.nil _)⟩)
end Go.Proofs.YtegociefcfcihaaDoor.Lb
