/-
  Walks, printed by gen.py: what each function hands back, said of numbers.
  Conditions: those that each theorem bears.
-/
import Derived.Test.YtegociefcfcihaaDoorChecked
import Derived.Test.YtegociefcfcihaaDoorFu
import Derived.Test.YtegociefcfcihaaDoorWa
import Derived.Test.YtegociefcfcihaaDoorWb
import Derived.Test.YtegociefcfcihaaDoorWe
set_option linter.unusedVariables false
set_option maxRecDepth 20000
namespace Go.Proofs.YtegociefcfcihaaDoor.Wg
open Go Go.Fw

theorem sz39 : SizeT Tryd.prog 39 32 := (by unfold SizeT; kernel_rfl)
theorem zero8 : ZeroT Tryd.prog 67 (.agg (rowN .u64 (lg 0)).toArray) := (by unfold ZeroT; kernel_rfl)
theorem one25 : OneT Tryd.prog 25 := ⟨⟨_, Tryd.underlying25, rfl⟩, by kernel_rfl⟩
theorem one27 : OneT Tryd.prog 27 := ⟨⟨_, Tryd.underlying27, rfl⟩, by kernel_rfl⟩
theorem fok153 : FnOk Tryd.prog 153 := FnOk.mk' Tryd.func153 (by kernel_rfl) rfl
theorem fok23 : FnOk Tryd.prog 23 := FnOk.mk' Tryd.func23 (by kernel_rfl) rfl
theorem fok27 : FnOk Tryd.prog 27 := FnOk.mk' Tryd.func27 (by kernel_rfl) rfl
theorem fok25 : FnOk Tryd.prog 25 := FnOk.mk' Tryd.func25 (by kernel_rfl) rfl
theorem fok29 : FnOk Tryd.prog 29 := FnOk.mk' Tryd.func29 (by kernel_rfl) rfl
theorem fok34 : FnOk Tryd.prog 34 := FnOk.mk' Tryd.func34 (by kernel_rfl) rfl
theorem fok31 : FnOk Tryd.prog 31 := FnOk.mk' Tryd.func31 (by kernel_rfl) rfl
theorem fok36 : FnOk Tryd.prog 36 := FnOk.mk' Tryd.func36 (by kernel_rfl) rfl
theorem fok46 : FnOk Tryd.prog 46 := FnOk.mk' Tryd.func46 (by kernel_rfl) rfl
theorem fok48 : FnOk Tryd.prog 48 := FnOk.mk' Tryd.func48 (by kernel_rfl) rfl
theorem fok50 : FnOk Tryd.prog 50 := FnOk.mk' Tryd.func50 (by kernel_rfl) rfl
theorem fok44 : FnOk Tryd.prog 44 := FnOk.mk' Tryd.func44 (by kernel_rfl) rfl
theorem fok155 : FnOk Tryd.prog 155 := FnOk.mk' Tryd.func155 (by kernel_rfl) rfl
theorem fok54 : FnOk Tryd.prog 54 := FnOk.mk' Tryd.func54 (by kernel_rfl) rfl
theorem fok55 : FnOk Tryd.prog 55 := FnOk.mk' Tryd.func55 (by kernel_rfl) rfl
theorem fok38 : FnOk Tryd.prog 38 := FnOk.mk' Tryd.func38 (by kernel_rfl) rfl
theorem fok40 : FnOk Tryd.prog 40 := FnOk.mk' Tryd.func40 (by kernel_rfl) rfl
theorem fok79 : FnOk Tryd.prog 79 := FnOk.mk' Tryd.func79 (by kernel_rfl) rfl
theorem fok157 : FnOk Tryd.prog 157 := FnOk.mk' Tryd.func157 (by kernel_rfl) rfl
theorem fok62 : FnOk Tryd.prog 62 := FnOk.mk' Tryd.func62 (by kernel_rfl) rfl
theorem fok64 : FnOk Tryd.prog 64 := FnOk.mk' Tryd.func64 (by kernel_rfl) rfl
theorem fok66 : FnOk Tryd.prog 66 := FnOk.mk' Tryd.func66 (by kernel_rfl) rfl
theorem fok158 : FnOk Tryd.prog 158 := FnOk.mk' Tryd.func158 (by kernel_rfl) rfl
theorem fok69 : FnOk Tryd.prog 69 := FnOk.mk' Tryd.func69 (by kernel_rfl) rfl
theorem fok59 : FnOk Tryd.prog 59 := FnOk.mk' Tryd.func59 (by kernel_rfl) rfl
theorem fok60 : FnOk Tryd.prog 60 := FnOk.mk' Tryd.func60 (by kernel_rfl) rfl
theorem fok42 : FnOk Tryd.prog 42 := FnOk.mk' Tryd.func42 (by kernel_rfl) rfl
theorem fok159 : FnOk Tryd.prog 159 := FnOk.mk' Tryd.func159 (by kernel_rfl) rfl
theorem func98T : FuncT Tryd.prog 98 := ⟨_, _, _, Tryd.underlying98⟩
theorem fok148 : FnOk Tryd.prog 148 := FnOk.mk' Tryd.func148 (by kernel_rfl) rfl
theorem zero24 : ZeroT Tryd.prog 24 (.agg ([.int .u64 0, .int .u64 0, .int .u64 0, .int .u64 0]).toArray) := (by unfold ZeroT; kernel_rfl)
theorem agg24 : AggT Tryd.prog 24 4 := ⟨⟨_, Tryd.underlying24, rfl⟩, by kernel_rfl⟩
theorem sz24 : SizeT Tryd.prog 24 4 := (by unfold SizeT; kernel_rfl)
theorem fok156 : FnOk Tryd.prog 156 := FnOk.mk' Tryd.func156 (by kernel_rfl) rfl
theorem fok81 : FnOk Tryd.prog 81 := FnOk.mk' Tryd.func81 (by kernel_rfl) rfl
theorem fok61 : FnOk Tryd.prog 61 := FnOk.mk' Tryd.func61 (by kernel_rfl) rfl
theorem fok73 : FnOk Tryd.prog 73 := FnOk.mk' Tryd.func73 (by kernel_rfl) rfl
theorem zero99 : ZeroT Tryd.prog 99 (.agg ([.nilFunc, .nilFunc, .nilFunc, .nilFunc, .nilFunc, .nilFunc, .nilFunc, .nilFunc, .nilFunc, .nilFunc, .nilFunc, .nilFunc, .nilFunc, .nilFunc, .nilFunc, .nilFunc, .nilFunc, .nilFunc, .nilFunc, .nilFunc, .nilFunc, .nilFunc, .nilFunc, .nilFunc, .nilFunc, .nilFunc, .nilFunc, .nilFunc, .nilFunc, .nilFunc, .nilFunc]).toArray) := (by unfold ZeroT; kernel_rfl)
theorem fok152 : FnOk Tryd.prog 152 := FnOk.mk' Tryd.func152 (by kernel_rfl) rfl
theorem fok154 : FnOk Tryd.prog 154 := FnOk.mk' Tryd.func154 (by kernel_rfl) rfl
theorem sz99 : SizeT Tryd.prog 99 31 := (by unfold SizeT; kernel_rfl)
theorem agg99 : AggT Tryd.prog 99 31 := ⟨⟨_, Tryd.underlying99, rfl⟩, by kernel_rfl⟩

theorem two1 (w : World) (a b c g f : Nat) (S : Nat → Nat → Nat) (hc : Cs w (some ⟨g, 0, none⟩) [.func (.func f) #[] #[]]) (hok : FnOk Tryd.prog f) (hs : ∀ w x y, Calls Tryd.prog f [W x, W y].toArray w fun e w' => e = .returned (W (S x y)) ∧ WS w [] [] w') :
    Calls Tryd.prog 153 [W a, W b, W c, .pointer (some ⟨g, 0, none⟩)].toArray w fun e w' => e = .returned (W (S a b)) ∧ WS w [] [] w' := by
  refine calls_of_T [] 12 [] Tryd.func153 rfl Tryd.ntmps153 (by simp) (WS.refl _ _) ?_
  refine T.seq ?_
  refine T.text [.l, .l, .l, .l] rfl ?_
  refine J.box 4 rfl rfl (wc a) rfl rfl (fun g4 hg4 => ?_)
  refine J.box 5 rfl rfl (wc b) rfl rfl (fun g5 hg5 => ?_)
  refine J.box 6 rfl rfl (wc c) rfl rfl (fun g6 hg6 => ?_)
  refine J.alloc 7 rfl zero24 [.int .u64 0, .int .u64 0, .int .u64 0, .int .u64 0] rfl rfl (fun g7 hg7 => ?_)
  refine J.end ?_
  refine X.then ?_
  refine T.seq ?_
  refine T.text [.l, .l, .l, .l, .l] rfl ?_
  refine J.loadI1 (k := .l) trivial (A := some ⟨g, 0, none⟩) (i := 0) hc (off_nil _) rfl one25 rfl rfl ?_
  refine J.loadN (k := .l) trivial 4 rfl rfl agg24 (wc a) rfl rfl rfl ?_
  refine J.loadN (k := .l) trivial 5 rfl rfl agg24 (wc b) rfl rfl rfl ?_
  refine J.callV0 hok rfl rfl rfl (fun w hw => hs _ _ _) ?_
  refine J.store 7 rfl rfl rfl rfl (wc (S a b)) rfl sz24 (by first | decide | exact Nat.le_refl _ | exact Nat.le_of_ble_eq_true rfl | (simp [rowN]; done) | (simp [rowN]; omega)) (by first | exact rowN_one _ _ | (simp; done) | (intro u hu; simp at hu; subst hu; rfl) | (intro u hu; simp at hu; rcases hu with rfl | rfl <;> rfl)) (by first | decide | exact Nat.zero_lt_succ _ | simp) trivial (wc (S a b)) rfl ?_
  refine J.end ?_
  refine X.then ?_
  refine T.ret ?_
  exact X.ret1 rfl (RV.agg 7 rfl rfl agg24 (wc (S a b)) (by rfl) (by rfl) rfl) (fun w' hw' => ⟨rfl, hw'.sub (Sub.nil _)⟩)

theorem is1 (w : World) (a b c g f : Nat) (S : Nat → Nat → Prop) [∀ x y, Decidable (S x y)] (hc : Cs w (some ⟨g, 0, none⟩) [.func (.func f) #[] #[]]) (hok : FnOk Tryd.prog f) (hs : ∀ w x y, Calls Tryd.prog f [W x, W y].toArray w fun e w' => e = .returned (.bool (decide (S x y))) ∧ WS w [] [] w') :
    Calls Tryd.prog 155 [W a, W b, W c, .pointer (some ⟨g, 0, none⟩)].toArray w fun e w' => e = .returned (W (if S a b then 1 else 0)) ∧ WS w [] [] w' := by
  refine calls_of_T [] 13 [] Tryd.func155 rfl Tryd.ntmps155 (by simp) (WS.refl _ _) ?_
  refine T.seq ?_
  refine T.text [.l, .l, .l, .l] rfl ?_
  refine J.box 4 rfl rfl (wc a) rfl rfl (fun g4 hg4 => ?_)
  refine J.box 5 rfl rfl (wc b) rfl rfl (fun g5 hg5 => ?_)
  refine J.box 6 rfl rfl (wc c) rfl rfl (fun g6 hg6 => ?_)
  refine J.alloc 7 rfl zero24 [.int .u64 0, .int .u64 0, .int .u64 0, .int .u64 0] rfl rfl (fun g7 hg7 => ?_)
  refine J.end ?_
  refine X.then ?_
  refine T.seq ?_
  refine T.text [.l, .l, .l, .l, .l, .l] rfl ?_
  refine J.loadI1 (k := .l) trivial (A := some ⟨g, 0, none⟩) (i := 0) hc (off_nil _) rfl one27 rfl rfl ?_
  refine J.loadN (k := .l) trivial 4 rfl rfl agg24 (wc a) rfl rfl rfl ?_
  refine J.loadN (k := .l) trivial 5 rfl rfl agg24 (wc b) rfl rfl rfl ?_
  refine J.callV0 hok rfl rfl rfl (fun w hw => hs _ _ _) ?_
  refine J.call0 (k := .l) trivial fok156 rfl rfl (fun w hw => We.truth w (S a b)) ?_
  refine J.store 7 rfl rfl rfl rfl (wc (if S a b then 1 else 0)) rfl sz24 (by first | decide | exact Nat.le_refl _ | exact Nat.le_of_ble_eq_true rfl | (simp [rowN]; done) | (simp [rowN]; omega)) (by first | exact rowN_one _ _ | (simp; done) | (intro u hu; simp at hu; subst hu; rfl) | (intro u hu; simp at hu; rcases hu with rfl | rfl <;> rfl)) (by first | decide | exact Nat.zero_lt_succ _ | simp) trivial (wc (if S a b then 1 else 0)) rfl ?_
  refine J.end ?_
  refine X.then ?_
  refine T.ret ?_
  exact X.ret1 rfl (RV.agg 7 rfl rfl agg24 (wc (if S a b then 1 else 0)) (by rfl) (by rfl) rfl) (fun w' hw' => ⟨rfl, hw'.sub (Sub.nil _)⟩)

theorem two (w : World) (f : Nat) :
    Calls Tryd.prog 152 [.func (.func f) #[] #[]].toArray w fun e w' => ClosPost w 25 153 (.func (.func f) #[] #[]) e w' := by
  refine calls_of_T [] 4 [] Tryd.func152 rfl Tryd.ntmps152 (by simp) (WS.refl _ _) ?_
  refine T.seq ?_
  refine T.text [.l, .l] rfl ?_
  refine J.box 1 rfl rfl _ rfl rfl (fun g1 hg1 => ?_)
  refine J.assign rfl rfl ?_
  refine J.end ?_
  refine X.then ?_
  refine T.seq ?_
  refine T.text [.l, .l] rfl ?_
  refine J.makeFunc (vf := []) (vc := [_]) rfl rfl rfl ?_
  refine J.assign rfl rfl ?_
  refine J.end ?_
  refine X.then ?_
  refine T.ret ?_
  exact X.ret1 rfl (RV.tmp rfl) (fun w' hw' => ⟨g1, hg1, rfl, hw'.only 1 0 rfl⟩)

theorem is_ (w : World) (f : Nat) :
    Calls Tryd.prog 154 [.func (.func f) #[] #[]].toArray w fun e w' => ClosPost w 27 155 (.func (.func f) #[] #[]) e w' := by
  refine calls_of_T [] 4 [] Tryd.func154 rfl Tryd.ntmps154 (by simp) (WS.refl _ _) ?_
  refine T.seq ?_
  refine T.text [.l, .l] rfl ?_
  refine J.box 1 rfl rfl _ rfl rfl (fun g1 hg1 => ?_)
  refine J.assign rfl rfl ?_
  refine J.end ?_
  refine X.then ?_
  refine T.seq ?_
  refine T.text [.l, .l] rfl ?_
  refine J.makeFunc (vf := []) (vc := [_]) rfl rfl rfl ?_
  refine J.assign rfl rfl ?_
  refine J.end ?_
  refine X.then ?_
  refine T.ret ?_
  exact X.ret1 rfl (RV.tmp rfl) (fun w' hw' => ⟨g1, hg1, rfl, hw'.only 1 0 rfl⟩)

theorem isz (w : World) (x0 x1 x2 : Nat) :
    Calls Tryd.prog 157 [W x0, W x1, W x2].toArray w fun e w' => e = .returned (W (if x0 % 2 ^ 256 = 0 then 1 else 0)) ∧ WS w [] [] w' := by
  refine calls_of_T [] 10 [] Tryd.func157 rfl Tryd.ntmps157 (by simp) (WS.refl _ _) ?_
  refine T.seq ?_
  refine T.text [.l, .l, .l, .l] rfl ?_
  refine J.box 3 rfl rfl (wc x0) rfl rfl (fun g3 hg3 => ?_)
  refine J.box 4 rfl rfl (wc x1) rfl rfl (fun g4 hg4 => ?_)
  refine J.box 5 rfl rfl (wc x2) rfl rfl (fun g5 hg5 => ?_)
  refine J.alloc 6 rfl zero24 [.int .u64 0, .int .u64 0, .int .u64 0, .int .u64 0] rfl rfl (fun g6 hg6 => ?_)
  refine J.end ?_
  refine X.then ?_
  refine T.seq ?_
  refine T.text [.l, .l, .l, .l] rfl ?_
  refine J.loadN (k := .l) trivial 3 rfl rfl agg24 (wc x0) rfl rfl rfl ?_
  refine J.call0 (k := .l) trivial fok81 rfl rfl (fun w hw => Wa.IsZero w _) ?_
  refine J.call0 (k := .l) trivial fok156 rfl rfl (fun w hw => We.truth w (x0 % 2 ^ 256 = 0)) ?_
  refine J.store 6 rfl rfl rfl rfl (wc (if x0 % 2 ^ 256 = 0 then 1 else 0)) rfl sz24 (by first | decide | exact Nat.le_refl _ | exact Nat.le_of_ble_eq_true rfl | (simp [rowN]; done) | (simp [rowN]; omega)) (by first | exact rowN_one _ _ | (simp; done) | (intro u hu; simp at hu; subst hu; rfl) | (intro u hu; simp at hu; rcases hu with rfl | rfl <;> rfl)) (by first | decide | exact Nat.zero_lt_succ _ | simp) trivial (wc (if x0 % 2 ^ 256 = 0 then 1 else 0)) rfl ?_
  refine J.end ?_
  refine X.then ?_
  refine T.ret ?_
  exact X.ret1 rfl (RV.agg 6 rfl rfl agg24 (wc (if x0 % 2 ^ 256 = 0 then 1 else 0)) (by rfl) (by rfl) rfl) (fun w' hw' => ⟨rfl, hw'.sub (Sub.nil _)⟩)

theorem not_ (w : World) (x0 x1 x2 : Nat) :
    Calls Tryd.prog 158 [W x0, W x1, W x2].toArray w fun e w' => e = .returned (W (notN x0)) ∧ WS w [] [] w' := by
  refine calls_of_T [] 9 [] Tryd.func158 rfl Tryd.ntmps158 (by simp) (WS.refl _ _) ?_
  refine T.seq ?_
  refine T.text [.l, .l, .l, .l] rfl ?_
  refine J.box 3 rfl rfl (wc x0) rfl rfl (fun g3 hg3 => ?_)
  refine J.box 4 rfl rfl (wc x1) rfl rfl (fun g4 hg4 => ?_)
  refine J.box 5 rfl rfl (wc x2) rfl rfl (fun g5 hg5 => ?_)
  refine J.alloc 6 rfl zero24 [.int .u64 0, .int .u64 0, .int .u64 0, .int .u64 0] rfl rfl (fun g6 hg6 => ?_)
  refine J.end ?_
  refine X.then ?_
  refine T.seq ?_
  refine T.text [.l, .l, .l] rfl ?_
  refine J.loadN (k := .l) trivial 3 rfl rfl agg24 (wc x0) rfl rfl rfl ?_
  refine J.call0 (k := .l) trivial fok61 rfl rfl (fun w hw => We.Not w _) ?_
  refine J.store 6 rfl rfl rfl rfl (wc (notN x0)) rfl sz24 (by first | decide | exact Nat.le_refl _ | exact Nat.le_of_ble_eq_true rfl | (simp [rowN]; done) | (simp [rowN]; omega)) (by first | exact rowN_one _ _ | (simp; done) | (intro u hu; simp at hu; subst hu; rfl) | (intro u hu; simp at hu; rcases hu with rfl | rfl <;> rfl)) (by first | decide | exact Nat.zero_lt_succ _ | simp) trivial (wc (notN x0)) rfl ?_
  refine J.end ?_
  refine X.then ?_
  refine T.ret ?_
  exact X.ret1 rfl (RV.agg 6 rfl rfl agg24 (wc (notN x0)) (by rfl) (by rfl) rfl) (fun w' hw' => ⟨rfl, hw'.sub (Sub.nil _)⟩)

theorem clz (w : World) (x0 x1 x2 : Nat) :
    Calls Tryd.prog 159 [W x0, W x1, W x2].toArray w fun e w' => e = .returned (W (256 - bitLen (x0 % 2 ^ 256))) ∧ WS w [] [] w' := by
  refine calls_of_T [] 9 [] Tryd.func159 rfl Tryd.ntmps159 (by simp) (WS.refl _ _) ?_
  refine T.seq ?_
  refine T.text [.l, .l, .l, .l] rfl ?_
  refine J.box 3 rfl rfl (wc x0) rfl rfl (fun g3 hg3 => ?_)
  refine J.box 4 rfl rfl (wc x1) rfl rfl (fun g4 hg4 => ?_)
  refine J.box 5 rfl rfl (wc x2) rfl rfl (fun g5 hg5 => ?_)
  refine J.alloc 6 rfl zero24 [.int .u64 0, .int .u64 0, .int .u64 0, .int .u64 0] rfl rfl (fun g6 hg6 => ?_)
  refine J.end ?_
  refine X.then ?_
  refine T.seq ?_
  refine T.text [.l, .l, .l] rfl ?_
  refine J.loadN (k := .l) trivial 3 rfl rfl agg24 (wc x0) rfl rfl rfl ?_
  refine J.call0 (k := .l) trivial fok73 rfl rfl (fun w hw => We.Clz w _) ?_
  refine J.store 6 rfl rfl rfl rfl (wc (256 - bitLen (x0 % 2 ^ 256))) rfl sz24 (by first | decide | exact Nat.le_refl _ | exact Nat.le_of_ble_eq_true rfl | (simp [rowN]; done) | (simp [rowN]; omega)) (by first | exact rowN_one _ _ | (simp; done) | (intro u hu; simp at hu; subst hu; rfl) | (intro u hu; simp at hu; rcases hu with rfl | rfl <;> rfl)) (by first | decide | exact Nat.zero_lt_succ _ | simp) trivial (wc (256 - bitLen (x0 % 2 ^ 256))) rfl ?_
  refine J.end ?_
  refine X.then ?_
  refine T.ret ?_
  exact X.ret1 rfl (RV.agg 6 rfl rfl agg24 (wc (256 - bitLen (x0 % 2 ^ 256))) (by rfl) (by rfl) rfl) (fun w' hw' => ⟨rfl, hw'.sub (Sub.nil _)⟩)

def fvsOf (γ : Nat → Nat) : List Value := [.nilFunc, .func (.func 153) #[] [.pointer (some ⟨γ 4, 0, none⟩)].toArray, .func (.func 153) #[] [.pointer (some ⟨γ 6, 0, none⟩)].toArray, .func (.func 153) #[] [.pointer (some ⟨γ 8, 0, none⟩)].toArray, .func (.func 153) #[] [.pointer (some ⟨γ 10, 0, none⟩)].toArray, .func (.func 153) #[] [.pointer (some ⟨γ 12, 0, none⟩)].toArray, .func (.func 153) #[] [.pointer (some ⟨γ 14, 0, none⟩)].toArray, .func (.func 153) #[] [.pointer (some ⟨γ 16, 0, none⟩)].toArray, .func (.func 46) #[] #[], .func (.func 48) #[] #[], .func (.func 153) #[] [.pointer (some ⟨γ 18, 0, none⟩)].toArray, .func (.func 153) #[] [.pointer (some ⟨γ 20, 0, none⟩)].toArray, .nilFunc, .nilFunc, .nilFunc, .nilFunc, .func (.func 155) #[] [.pointer (some ⟨γ 22, 0, none⟩)].toArray, .func (.func 155) #[] [.pointer (some ⟨γ 24, 0, none⟩)].toArray, .func (.func 155) #[] [.pointer (some ⟨γ 26, 0, none⟩)].toArray, .func (.func 155) #[] [.pointer (some ⟨γ 28, 0, none⟩)].toArray, .func (.func 155) #[] [.pointer (some ⟨γ 30, 0, none⟩)].toArray, .func (.func 157) #[] #[], .func (.func 153) #[] [.pointer (some ⟨γ 32, 0, none⟩)].toArray, .func (.func 153) #[] [.pointer (some ⟨γ 34, 0, none⟩)].toArray, .func (.func 153) #[] [.pointer (some ⟨γ 36, 0, none⟩)].toArray, .func (.func 158) #[] #[], .func (.func 153) #[] [.pointer (some ⟨γ 38, 0, none⟩)].toArray, .func (.func 153) #[] [.pointer (some ⟨γ 40, 0, none⟩)].toArray, .func (.func 153) #[] [.pointer (some ⟨γ 42, 0, none⟩)].toArray, .func (.func 153) #[] [.pointer (some ⟨γ 44, 0, none⟩)].toArray, .func (.func 159) #[] #[]]
def entsOf (γ : Nat → Nat) : List (Nat × Ent) := [(4, ⟨some (γ 4), 25, [.func (.func 23) #[] #[]]⟩), (6, ⟨some (γ 6), 25, [.func (.func 27) #[] #[]]⟩), (8, ⟨some (γ 8), 25, [.func (.func 25) #[] #[]]⟩), (10, ⟨some (γ 10), 25, [.func (.func 29) #[] #[]]⟩), (12, ⟨some (γ 12), 25, [.func (.func 34) #[] #[]]⟩), (14, ⟨some (γ 14), 25, [.func (.func 31) #[] #[]]⟩), (16, ⟨some (γ 16), 25, [.func (.func 36) #[] #[]]⟩), (18, ⟨some (γ 18), 25, [.func (.func 50) #[] #[]]⟩), (20, ⟨some (γ 20), 25, [.func (.func 44) #[] #[]]⟩), (32, ⟨some (γ 32), 25, [.func (.func 62) #[] #[]]⟩), (34, ⟨some (γ 34), 25, [.func (.func 64) #[] #[]]⟩), (36, ⟨some (γ 36), 25, [.func (.func 66) #[] #[]]⟩), (38, ⟨some (γ 38), 25, [.func (.func 69) #[] #[]]⟩), (40, ⟨some (γ 40), 25, [.func (.func 59) #[] #[]]⟩), (42, ⟨some (γ 42), 25, [.func (.func 60) #[] #[]]⟩), (44, ⟨some (γ 44), 25, [.func (.func 42) #[] #[]]⟩), (22, ⟨some (γ 22), 27, [.func (.func 54) #[] #[]]⟩), (24, ⟨some (γ 24), 27, [.func (.func 55) #[] #[]]⟩), (26, ⟨some (γ 26), 27, [.func (.func 38) #[] #[]]⟩), (28, ⟨some (γ 28), 27, [.func (.func 40) #[] #[]]⟩), (30, ⟨some (γ 30), 27, [.func (.func 79) #[] #[]]⟩)]
theorem fvs_one (γ : Nat → Nat) : ∀ u ∈ fvsOf γ, u.oneCell' = true := by
  intro u hu
  simp only [fvsOf, List.mem_cons, List.not_mem_nil, or_false] at hu
  rcases hu with rfl | rfl | rfl | rfl | rfl | rfl | rfl | rfl | rfl | rfl | rfl | rfl | rfl | rfl | rfl | rfl | rfl | rfl | rfl | rfl | rfl | rfl | rfl | rfl | rfl | rfl | rfl | rfl | rfl | rfl | rfl <;> rfl
set_option maxHeartbeats 2000000 in
theorem works (w : World) :
    Calls Tryd.prog 148 [].toArray w fun e w' => ∃ γ : Nat → Nat, e = .returned (.agg (fvsOf γ).toArray) ∧ WS w [] (sh (entsOf γ)) w' := by
  refine calls_of_T [] 46 [] Tryd.func148 rfl Tryd.ntmps148 (by simp) (WS.refl _ _) ?_
  refine T.seq ?_
  refine T.text [.l] rfl ?_
  refine J.alloc 0 rfl zero99 [.nilFunc, .nilFunc, .nilFunc, .nilFunc, .nilFunc, .nilFunc, .nilFunc, .nilFunc, .nilFunc, .nilFunc, .nilFunc, .nilFunc, .nilFunc, .nilFunc, .nilFunc, .nilFunc, .nilFunc, .nilFunc, .nilFunc, .nilFunc, .nilFunc, .nilFunc, .nilFunc, .nilFunc, .nilFunc, .nilFunc, .nilFunc, .nilFunc, .nilFunc, .nilFunc, .nilFunc] rfl rfl (fun g0 hg0 => ?_)
  refine J.end ?_
  refine X.then ?_
  refine T.seq ?_
  refine T.text [.l] rfl ?_
  refine J.assign rfl rfl ?_
  refine J.end ?_
  refine X.then ?_
  refine T.seq ?_
  refine T.text [.l] rfl ?_
  refine J.assign rfl rfl ?_
  refine J.end ?_
  refine X.then ?_
  refine T.seq ?_
  refine T.text [.l, .l, .l, .l, .l, .l, .l, .l, .l, .l, .l, .l, .l, .l, .l, .l, .l, .l, .l, .l, .l, .l, .l, .l, .l, .l, .l, .l, .l, .l, .l, .l, .l, .l, .l, .l, .l, .l, .l, .l, .l, .l, .l, .l] rfl ?_
  refine J.move rfl rfl ?_
  refine J.callClos 4 rfl (t := 25) (f2 := 153) (fv := .func (.func 23) #[] #[]) fok152 rfl rfl rfl (fun w hw => Wg.two w _) (fun g4 hg4 => ?_)
  refine J.move rfl rfl ?_
  refine J.callClos 6 rfl (t := 25) (f2 := 153) (fv := .func (.func 27) #[] #[]) fok152 rfl rfl rfl (fun w hw => Wg.two w _) (fun g6 hg6 => ?_)
  refine J.move rfl rfl ?_
  refine J.callClos 8 rfl (t := 25) (f2 := 153) (fv := .func (.func 25) #[] #[]) fok152 rfl rfl rfl (fun w hw => Wg.two w _) (fun g8 hg8 => ?_)
  refine J.move rfl rfl ?_
  refine J.callClos 10 rfl (t := 25) (f2 := 153) (fv := .func (.func 29) #[] #[]) fok152 rfl rfl rfl (fun w hw => Wg.two w _) (fun g10 hg10 => ?_)
  refine J.move rfl rfl ?_
  refine J.callClos 12 rfl (t := 25) (f2 := 153) (fv := .func (.func 34) #[] #[]) fok152 rfl rfl rfl (fun w hw => Wg.two w _) (fun g12 hg12 => ?_)
  refine J.move rfl rfl ?_
  refine J.callClos 14 rfl (t := 25) (f2 := 153) (fv := .func (.func 31) #[] #[]) fok152 rfl rfl rfl (fun w hw => Wg.two w _) (fun g14 hg14 => ?_)
  refine J.move rfl rfl ?_
  refine J.callClos 16 rfl (t := 25) (f2 := 153) (fv := .func (.func 36) #[] #[]) fok152 rfl rfl rfl (fun w hw => Wg.two w _) (fun g16 hg16 => ?_)
  refine J.move rfl rfl ?_
  refine J.callClos 18 rfl (t := 25) (f2 := 153) (fv := .func (.func 50) #[] #[]) fok152 rfl rfl rfl (fun w hw => Wg.two w _) (fun g18 hg18 => ?_)
  refine J.move rfl rfl ?_
  refine J.callClos 20 rfl (t := 25) (f2 := 153) (fv := .func (.func 44) #[] #[]) fok152 rfl rfl rfl (fun w hw => Wg.two w _) (fun g20 hg20 => ?_)
  refine J.move rfl rfl ?_
  refine J.callClos 22 rfl (t := 27) (f2 := 155) (fv := .func (.func 54) #[] #[]) fok154 rfl rfl rfl (fun w hw => Wg.is_ w _) (fun g22 hg22 => ?_)
  refine J.move rfl rfl ?_
  refine J.callClos 24 rfl (t := 27) (f2 := 155) (fv := .func (.func 55) #[] #[]) fok154 rfl rfl rfl (fun w hw => Wg.is_ w _) (fun g24 hg24 => ?_)
  refine J.move rfl rfl ?_
  refine J.callClos 26 rfl (t := 27) (f2 := 155) (fv := .func (.func 38) #[] #[]) fok154 rfl rfl rfl (fun w hw => Wg.is_ w _) (fun g26 hg26 => ?_)
  refine J.move rfl rfl ?_
  refine J.callClos 28 rfl (t := 27) (f2 := 155) (fv := .func (.func 40) #[] #[]) fok154 rfl rfl rfl (fun w hw => Wg.is_ w _) (fun g28 hg28 => ?_)
  refine J.move rfl rfl ?_
  refine J.callClos 30 rfl (t := 27) (f2 := 155) (fv := .func (.func 79) #[] #[]) fok154 rfl rfl rfl (fun w hw => Wg.is_ w _) (fun g30 hg30 => ?_)
  refine J.move rfl rfl ?_
  refine J.callClos 32 rfl (t := 25) (f2 := 153) (fv := .func (.func 62) #[] #[]) fok152 rfl rfl rfl (fun w hw => Wg.two w _) (fun g32 hg32 => ?_)
  refine J.move rfl rfl ?_
  refine J.callClos 34 rfl (t := 25) (f2 := 153) (fv := .func (.func 64) #[] #[]) fok152 rfl rfl rfl (fun w hw => Wg.two w _) (fun g34 hg34 => ?_)
  refine J.move rfl rfl ?_
  refine J.callClos 36 rfl (t := 25) (f2 := 153) (fv := .func (.func 66) #[] #[]) fok152 rfl rfl rfl (fun w hw => Wg.two w _) (fun g36 hg36 => ?_)
  refine J.move rfl rfl ?_
  refine J.callClos 38 rfl (t := 25) (f2 := 153) (fv := .func (.func 69) #[] #[]) fok152 rfl rfl rfl (fun w hw => Wg.two w _) (fun g38 hg38 => ?_)
  refine J.move rfl rfl ?_
  refine J.callClos 40 rfl (t := 25) (f2 := 153) (fv := .func (.func 59) #[] #[]) fok152 rfl rfl rfl (fun w hw => Wg.two w _) (fun g40 hg40 => ?_)
  refine J.move rfl rfl ?_
  refine J.callClos 42 rfl (t := 25) (f2 := 153) (fv := .func (.func 60) #[] #[]) fok152 rfl rfl rfl (fun w hw => Wg.two w _) (fun g42 hg42 => ?_)
  refine J.move rfl rfl ?_
  refine J.callClos 44 rfl (t := 25) (f2 := 153) (fv := .func (.func 42) #[] #[]) fok152 rfl rfl rfl (fun w hw => Wg.two w _) (fun g44 hg44 => ?_)
  refine J.build rfl rfl (.agg ([.nilFunc, .func (.func 153) #[] [.pointer (some ⟨g4, 0, none⟩)].toArray, .func (.func 153) #[] [.pointer (some ⟨g6, 0, none⟩)].toArray, .func (.func 153) #[] [.pointer (some ⟨g8, 0, none⟩)].toArray, .func (.func 153) #[] [.pointer (some ⟨g10, 0, none⟩)].toArray, .func (.func 153) #[] [.pointer (some ⟨g12, 0, none⟩)].toArray, .func (.func 153) #[] [.pointer (some ⟨g14, 0, none⟩)].toArray, .func (.func 153) #[] [.pointer (some ⟨g16, 0, none⟩)].toArray, .func (.func 46) #[] #[], .func (.func 48) #[] #[], .func (.func 153) #[] [.pointer (some ⟨g18, 0, none⟩)].toArray, .func (.func 153) #[] [.pointer (some ⟨g20, 0, none⟩)].toArray, .nilFunc, .nilFunc, .nilFunc, .nilFunc, .func (.func 155) #[] [.pointer (some ⟨g22, 0, none⟩)].toArray, .func (.func 155) #[] [.pointer (some ⟨g24, 0, none⟩)].toArray, .func (.func 155) #[] [.pointer (some ⟨g26, 0, none⟩)].toArray, .func (.func 155) #[] [.pointer (some ⟨g28, 0, none⟩)].toArray, .func (.func 155) #[] [.pointer (some ⟨g30, 0, none⟩)].toArray, .func (.func 157) #[] #[], .func (.func 153) #[] [.pointer (some ⟨g32, 0, none⟩)].toArray, .func (.func 153) #[] [.pointer (some ⟨g34, 0, none⟩)].toArray, .func (.func 153) #[] [.pointer (some ⟨g36, 0, none⟩)].toArray, .func (.func 158) #[] #[], .func (.func 153) #[] [.pointer (some ⟨g38, 0, none⟩)].toArray, .func (.func 153) #[] [.pointer (some ⟨g40, 0, none⟩)].toArray, .func (.func 153) #[] [.pointer (some ⟨g42, 0, none⟩)].toArray, .func (.func 153) #[] [.pointer (some ⟨g44, 0, none⟩)].toArray, .func (.func 159) #[] #[]] : List Value).toArray) (fun w => by kernel_rfl) ?_
  refine J.store 0 rfl rfl rfl rfl (fvsOf (fun i => match i with | 4 => g4 | 6 => g6 | 8 => g8 | 10 => g10 | 12 => g12 | 14 => g14 | 16 => g16 | 18 => g18 | 20 => g20 | 32 => g32 | 34 => g34 | 36 => g36 | 38 => g38 | 40 => g40 | 42 => g42 | 44 => g44 | 22 => g22 | 24 => g24 | 26 => g26 | 28 => g28 | 30 => g30 | _ => 0)) rfl sz99 (by first | decide | exact Nat.le_refl _ | exact Nat.le_of_ble_eq_true rfl | (simp [rowN]; done) | (simp [rowN]; omega)) (fvs_one _) (by first | decide | exact Nat.zero_lt_succ _ | simp) trivial (fvsOf (fun i => match i with | 4 => g4 | 6 => g6 | 8 => g8 | 10 => g10 | 12 => g12 | 14 => g14 | 16 => g16 | 18 => g18 | 20 => g20 | 32 => g32 | 34 => g34 | 36 => g36 | 38 => g38 | 40 => g40 | 42 => g42 | 44 => g44 | 22 => g22 | 24 => g24 | 26 => g26 | 28 => g28 | 30 => g30 | _ => 0)) rfl ?_
  refine J.end ?_
  refine X.then ?_
  refine T.ret ?_
  exact X.ret1 rfl (RV.agg 0 rfl rfl agg99 (fvsOf (fun i => match i with | 4 => g4 | 6 => g6 | 8 => g8 | 10 => g10 | 12 => g12 | 14 => g14 | 16 => g16 | 18 => g18 | 20 => g20 | 32 => g32 | 34 => g34 | 36 => g36 | 38 => g38 | 40 => g40 | 42 => g42 | 44 => g44 | 22 => g22 | 24 => g24 | 26 => g26 | 28 => g28 | 30 => g30 | _ => 0)) (by rfl) (by rfl) rfl) (fun w' hw' => ⟨(fun i => match i with | 4 => g4 | 6 => g6 | 8 => g8 | 10 => g10 | 12 => g12 | 14 => g14 | 16 => g16 | 18 => g18 | 20 => g20 | 32 => g32 | 34 => g34 | 36 => g36 | 38 => g38 | 40 => g40 | 42 => g42 | 44 => g44 | 22 => g22 | 24 => g24 | 26 => g26 | 28 => g28 | 30 => g30 | _ => 0), rfl, (hw'.sub (by unfold entsOf; repeat (first | exact Sub.nil _ | refine Sub.cons rfl ?_))).sh⟩)
end Go.Proofs.YtegociefcfcihaaDoor.Wg
