/-
  Walks, printed by gen.py: what each function hands back, said of numbers.
  Conditions: those that each theorem bears.
-/
import Derived.Test.YtegociefcfcihaaGreatDoorChecked
import Derived.Test.YtegociefcfcihaaGreatDoorFu
import Derived.Test.YtegociefcfcihaaGreatDoorWa
import Derived.Test.YtegociefcfcihaaGreatDoorWb
import Derived.Test.YtegociefcfcihaaGreatDoorWe
set_option linter.unusedVariables false
set_option maxRecDepth 20000
namespace Go.Proofs.YtegociefcfcihaaGreatDoor.Wg
open Go Go.Fw

theorem sz73 : SizeT Tryz.prog 73 32 := (by unfold SizeT; kernel_rfl)
theorem zero8 : ZeroT Tryz.prog 68 (.agg (rowN .u64 (lg 0)).toArray) := (by unfold ZeroT; kernel_rfl)
theorem one37 : OneT Tryz.prog 37 := ⟨⟨_, Tryz.underlying37, rfl⟩, by kernel_rfl⟩
theorem one41 : OneT Tryz.prog 41 := ⟨⟨_, Tryz.underlying41, rfl⟩, by kernel_rfl⟩
theorem fok24 : FnOk Tryz.prog 24 := FnOk.mk' Tryz.func24 (by kernel_rfl) rfl
theorem fok21 : FnOk Tryz.prog 21 := FnOk.mk' Tryz.func21 (by kernel_rfl) rfl
theorem fok28 : FnOk Tryz.prog 28 := FnOk.mk' Tryz.func28 (by kernel_rfl) rfl
theorem fok29 : FnOk Tryz.prog 29 := FnOk.mk' Tryz.func29 (by kernel_rfl) rfl
theorem fok30 : FnOk Tryz.prog 30 := FnOk.mk' Tryz.func30 (by kernel_rfl) rfl
theorem fok31 : FnOk Tryz.prog 31 := FnOk.mk' Tryz.func31 (by kernel_rfl) rfl
theorem fok32 : FnOk Tryz.prog 32 := FnOk.mk' Tryz.func32 (by kernel_rfl) rfl
theorem fok33 : FnOk Tryz.prog 33 := FnOk.mk' Tryz.func33 (by kernel_rfl) rfl
theorem fok34 : FnOk Tryz.prog 34 := FnOk.mk' Tryz.func34 (by kernel_rfl) rfl
theorem fok35 : FnOk Tryz.prog 35 := FnOk.mk' Tryz.func35 (by kernel_rfl) rfl
theorem fok36 : FnOk Tryz.prog 36 := FnOk.mk' Tryz.func36 (by kernel_rfl) rfl
theorem fok37 : FnOk Tryz.prog 37 := FnOk.mk' Tryz.func37 (by kernel_rfl) rfl
theorem fok26 : FnOk Tryz.prog 26 := FnOk.mk' Tryz.func26 (by kernel_rfl) rfl
theorem fok38 : FnOk Tryz.prog 38 := FnOk.mk' Tryz.func38 (by kernel_rfl) rfl
theorem fok39 : FnOk Tryz.prog 39 := FnOk.mk' Tryz.func39 (by kernel_rfl) rfl
theorem fok40 : FnOk Tryz.prog 40 := FnOk.mk' Tryz.func40 (by kernel_rfl) rfl
theorem fok41 : FnOk Tryz.prog 41 := FnOk.mk' Tryz.func41 (by kernel_rfl) rfl
theorem fok42 : FnOk Tryz.prog 42 := FnOk.mk' Tryz.func42 (by kernel_rfl) rfl
theorem fok43 : FnOk Tryz.prog 43 := FnOk.mk' Tryz.func43 (by kernel_rfl) rfl
theorem fok45 : FnOk Tryz.prog 45 := FnOk.mk' Tryz.func45 (by kernel_rfl) rfl
theorem fok46 : FnOk Tryz.prog 46 := FnOk.mk' Tryz.func46 (by kernel_rfl) rfl
theorem fok47 : FnOk Tryz.prog 47 := FnOk.mk' Tryz.func47 (by kernel_rfl) rfl
theorem fok48 : FnOk Tryz.prog 48 := FnOk.mk' Tryz.func48 (by kernel_rfl) rfl
theorem fok50 : FnOk Tryz.prog 50 := FnOk.mk' Tryz.func50 (by kernel_rfl) rfl
theorem fok51 : FnOk Tryz.prog 51 := FnOk.mk' Tryz.func51 (by kernel_rfl) rfl
theorem fok52 : FnOk Tryz.prog 52 := FnOk.mk' Tryz.func52 (by kernel_rfl) rfl
theorem fok53 : FnOk Tryz.prog 53 := FnOk.mk' Tryz.func53 (by kernel_rfl) rfl
theorem fok54 : FnOk Tryz.prog 54 := FnOk.mk' Tryz.func54 (by kernel_rfl) rfl
theorem func34T : FuncT Tryz.prog 34 := ⟨_, _, _, Tryz.underlying34⟩
theorem fok8 : FnOk Tryz.prog 8 := FnOk.mk' Tryz.func8 (by kernel_rfl) rfl
theorem zero24 : ZeroT Tryz.prog 24 (.agg ([.int .u64 0, .int .u64 0, .int .u64 0, .int .u64 0]).toArray) := (by unfold ZeroT; kernel_rfl)
theorem agg24 : AggT Tryz.prog 24 4 := ⟨⟨_, Tryz.underlying24, rfl⟩, by kernel_rfl⟩
theorem sz24 : SizeT Tryz.prog 24 4 := (by unfold SizeT; kernel_rfl)
theorem fok27 : FnOk Tryz.prog 27 := FnOk.mk' Tryz.func27 (by kernel_rfl) rfl
theorem fok44 : FnOk Tryz.prog 44 := FnOk.mk' Tryz.func44 (by kernel_rfl) rfl
theorem fok49 : FnOk Tryz.prog 49 := FnOk.mk' Tryz.func49 (by kernel_rfl) rfl
theorem fok55 : FnOk Tryz.prog 55 := FnOk.mk' Tryz.func55 (by kernel_rfl) rfl
theorem zero35 : ZeroT Tryz.prog 35 (.agg ([.nilFunc, .nilFunc, .nilFunc, .nilFunc, .nilFunc, .nilFunc, .nilFunc, .nilFunc, .nilFunc, .nilFunc, .nilFunc, .nilFunc, .nilFunc, .nilFunc, .nilFunc, .nilFunc, .nilFunc, .nilFunc, .nilFunc, .nilFunc, .nilFunc, .nilFunc, .nilFunc, .nilFunc, .nilFunc, .nilFunc, .nilFunc, .nilFunc, .nilFunc, .nilFunc, .nilFunc]).toArray) := (by unfold ZeroT; kernel_rfl)
theorem fok23 : FnOk Tryz.prog 23 := FnOk.mk' Tryz.func23 (by kernel_rfl) rfl
theorem fok25 : FnOk Tryz.prog 25 := FnOk.mk' Tryz.func25 (by kernel_rfl) rfl
theorem sz35 : SizeT Tryz.prog 35 31 := (by unfold SizeT; kernel_rfl)
theorem agg35 : AggT Tryz.prog 35 31 := ⟨⟨_, Tryz.underlying35, rfl⟩, by kernel_rfl⟩

theorem two1 (w : World) (a b c g f : Nat) (S : Nat → Nat → Nat) (hc : Cs w (some ⟨g, 0, none⟩) [.func (.func f) #[] #[]]) (hok : FnOk Tryz.prog f) (hs : ∀ w x y, Calls Tryz.prog f [W x, W y].toArray w fun e w' => e = .returned (W (S x y)) ∧ WS w [] [] w') :
    Calls Tryz.prog 24 [W a, W b, W c, .pointer (some ⟨g, 0, none⟩)].toArray w fun e w' => e = .returned (W (S a b)) ∧ WS w [] [] w' := by
  refine calls_of_T [] 12 [] Tryz.func24 rfl Tryz.ntmps24 (by simp) (WS.refl _ _) ?_
  refine T.seq ?_
  refine T.text [.l, .l, .l, .l] rfl ?_
  refine J.box 4 rfl rfl (wc a) rfl rfl (fun g4 hg4 => ?_)
  refine J.box 5 rfl rfl (wc b) rfl rfl (fun g5 hg5 => ?_)
  refine J.box 6 rfl rfl (wc c) rfl rfl (fun g6 hg6 => ?_)
  refine J.alloc 7 rfl zero24 [.int .u64 0, .int .u64 0, .int .u64 0, .int .u64 0] rfl rfl (fun g7 hg7 => ?_)
  refine J.end ?_
  refine X.then ?_
  refine T.seq ?_
  refine T.text [.l, .l, .l, .l, .l] rfl ?_
  refine J.loadI1 (k := .l) trivial (A := some ⟨g, 0, none⟩) (i := 0) hc (off_nil _) rfl one37 rfl rfl ?_
  refine J.loadN (k := .l) trivial 4 rfl rfl agg24 (wc a) rfl rfl rfl ?_
  refine J.loadN (k := .l) trivial 5 rfl rfl agg24 (wc b) rfl rfl rfl ?_
  refine J.callV0 hok rfl rfl rfl (fun w hw => hs _ _ _) ?_
  refine J.store 7 rfl rfl rfl rfl (wc (S a b)) rfl sz24 (by first | decide | exact Nat.le_refl _ | exact Nat.le_of_ble_eq_true rfl | (simp [rowN]; done) | (simp [rowN]; omega)) (by first | exact rowN_one _ _ | (simp; done) | (intro u hu; simp at hu; subst hu; rfl) | (intro u hu; simp at hu; rcases hu with rfl | rfl <;> rfl)) (by first | decide | exact Nat.zero_lt_succ _ | simp) trivial (wc (S a b)) rfl ?_
  refine J.end ?_
  refine X.then ?_
  refine T.ret ?_
  exact X.ret1 rfl (RV.agg 7 rfl rfl agg24 (wc (S a b)) (by rfl) (by rfl) rfl) (fun w' hw' => ⟨rfl, hw'.sub (Sub.nil _)⟩)

theorem is1 (w : World) (a b c g f : Nat) (S : Nat → Nat → Prop) [∀ x y, Decidable (S x y)] (hc : Cs w (some ⟨g, 0, none⟩) [.func (.func f) #[] #[]]) (hok : FnOk Tryz.prog f) (hs : ∀ w x y, Calls Tryz.prog f [W x, W y].toArray w fun e w' => e = .returned (.bool (decide (S x y))) ∧ WS w [] [] w') :
    Calls Tryz.prog 26 [W a, W b, W c, .pointer (some ⟨g, 0, none⟩)].toArray w fun e w' => e = .returned (W (if S a b then 1 else 0)) ∧ WS w [] [] w' := by
  refine calls_of_T [] 13 [] Tryz.func26 rfl Tryz.ntmps26 (by simp) (WS.refl _ _) ?_
  refine T.seq ?_
  refine T.text [.l, .l, .l, .l] rfl ?_
  refine J.box 4 rfl rfl (wc a) rfl rfl (fun g4 hg4 => ?_)
  refine J.box 5 rfl rfl (wc b) rfl rfl (fun g5 hg5 => ?_)
  refine J.box 6 rfl rfl (wc c) rfl rfl (fun g6 hg6 => ?_)
  refine J.alloc 7 rfl zero24 [.int .u64 0, .int .u64 0, .int .u64 0, .int .u64 0] rfl rfl (fun g7 hg7 => ?_)
  refine J.end ?_
  refine X.then ?_
  refine T.seq ?_
  refine T.text [.l, .l, .l, .l, .l, .l] rfl ?_
  refine J.loadI1 (k := .l) trivial (A := some ⟨g, 0, none⟩) (i := 0) hc (off_nil _) rfl one41 rfl rfl ?_
  refine J.loadN (k := .l) trivial 4 rfl rfl agg24 (wc a) rfl rfl rfl ?_
  refine J.loadN (k := .l) trivial 5 rfl rfl agg24 (wc b) rfl rfl rfl ?_
  refine J.callV0 hok rfl rfl rfl (fun w hw => hs _ _ _) ?_
  refine J.call0 (k := .l) trivial fok27 rfl rfl (fun w hw => We.truth w (S a b)) ?_
  refine J.store 7 rfl rfl rfl rfl (wc (if S a b then 1 else 0)) rfl sz24 (by first | decide | exact Nat.le_refl _ | exact Nat.le_of_ble_eq_true rfl | (simp [rowN]; done) | (simp [rowN]; omega)) (by first | exact rowN_one _ _ | (simp; done) | (intro u hu; simp at hu; subst hu; rfl) | (intro u hu; simp at hu; rcases hu with rfl | rfl <;> rfl)) (by first | decide | exact Nat.zero_lt_succ _ | simp) trivial (wc (if S a b then 1 else 0)) rfl ?_
  refine J.end ?_
  refine X.then ?_
  refine T.ret ?_
  exact X.ret1 rfl (RV.agg 7 rfl rfl agg24 (wc (if S a b then 1 else 0)) (by rfl) (by rfl) rfl) (fun w' hw' => ⟨rfl, hw'.sub (Sub.nil _)⟩)

theorem two (w : World) (f : Nat) :
    Calls Tryz.prog 23 [.func (.func f) #[] #[]].toArray w fun e w' => ClosPost w 37 24 (.func (.func f) #[] #[]) e w' := by
  refine calls_of_T [] 4 [] Tryz.func23 rfl Tryz.ntmps23 (by simp) (WS.refl _ _) ?_
  refine T.seq ?_
  refine T.text [.l, .l] rfl ?_
  refine J.box 1 rfl rfl _ rfl rfl (fun g1 hg1 => ?_)
  refine J.assign rfl rfl ?_
  refine J.end ?_
  refine X.then ?_
  refine T.seq ?_
  refine T.text [.l, .l] rfl ?_
  refine J.makeFunc (vf := []) (vc := [_]) rfl rfl rfl ?_
  refine J.assign rfl rfl ?_
  refine J.end ?_
  refine X.then ?_
  refine T.ret ?_
  exact X.ret1 rfl (RV.tmp rfl) (fun w' hw' => ⟨g1, hg1, rfl, hw'.only 1 0 rfl⟩)

theorem is_ (w : World) (f : Nat) :
    Calls Tryz.prog 25 [.func (.func f) #[] #[]].toArray w fun e w' => ClosPost w 41 26 (.func (.func f) #[] #[]) e w' := by
  refine calls_of_T [] 4 [] Tryz.func25 rfl Tryz.ntmps25 (by simp) (WS.refl _ _) ?_
  refine T.seq ?_
  refine T.text [.l, .l] rfl ?_
  refine J.box 1 rfl rfl _ rfl rfl (fun g1 hg1 => ?_)
  refine J.assign rfl rfl ?_
  refine J.end ?_
  refine X.then ?_
  refine T.seq ?_
  refine T.text [.l, .l] rfl ?_
  refine J.makeFunc (vf := []) (vc := [_]) rfl rfl rfl ?_
  refine J.assign rfl rfl ?_
  refine J.end ?_
  refine X.then ?_
  refine T.ret ?_
  exact X.ret1 rfl (RV.tmp rfl) (fun w' hw' => ⟨g1, hg1, rfl, hw'.only 1 0 rfl⟩)

theorem isz (w : World) (x0 x1 x2 : Nat) :
    Calls Tryz.prog 43 [W x0, W x1, W x2].toArray w fun e w' => e = .returned (W (if x0 % 2 ^ 256 = 0 then 1 else 0)) ∧ WS w [] [] w' := by
  refine calls_of_T [] 10 [] Tryz.func43 rfl Tryz.ntmps43 (by simp) (WS.refl _ _) ?_
  refine T.seq ?_
  refine T.text [.l, .l, .l, .l] rfl ?_
  refine J.box 3 rfl rfl (wc x0) rfl rfl (fun g3 hg3 => ?_)
  refine J.box 4 rfl rfl (wc x1) rfl rfl (fun g4 hg4 => ?_)
  refine J.box 5 rfl rfl (wc x2) rfl rfl (fun g5 hg5 => ?_)
  refine J.alloc 6 rfl zero24 [.int .u64 0, .int .u64 0, .int .u64 0, .int .u64 0] rfl rfl (fun g6 hg6 => ?_)
  refine J.end ?_
  refine X.then ?_
  refine T.seq ?_
  refine T.text [.l, .l, .l, .l] rfl ?_
  refine J.loadN (k := .l) trivial 3 rfl rfl agg24 (wc x0) rfl rfl rfl ?_
  refine J.call0 (k := .l) trivial fok44 rfl rfl (fun w hw => Wa.IsZero w _) ?_
  refine J.call0 (k := .l) trivial fok27 rfl rfl (fun w hw => We.truth w (x0 % 2 ^ 256 = 0)) ?_
  refine J.store 6 rfl rfl rfl rfl (wc (if x0 % 2 ^ 256 = 0 then 1 else 0)) rfl sz24 (by first | decide | exact Nat.le_refl _ | exact Nat.le_of_ble_eq_true rfl | (simp [rowN]; done) | (simp [rowN]; omega)) (by first | exact rowN_one _ _ | (simp; done) | (intro u hu; simp at hu; subst hu; rfl) | (intro u hu; simp at hu; rcases hu with rfl | rfl <;> rfl)) (by first | decide | exact Nat.zero_lt_succ _ | simp) trivial (wc (if x0 % 2 ^ 256 = 0 then 1 else 0)) rfl ?_
  refine J.end ?_
  refine X.then ?_
  refine T.ret ?_
  exact X.ret1 rfl (RV.agg 6 rfl rfl agg24 (wc (if x0 % 2 ^ 256 = 0 then 1 else 0)) (by rfl) (by rfl) rfl) (fun w' hw' => ⟨rfl, hw'.sub (Sub.nil _)⟩)

theorem not_ (w : World) (x0 x1 x2 : Nat) :
    Calls Tryz.prog 48 [W x0, W x1, W x2].toArray w fun e w' => e = .returned (W (notN x0)) ∧ WS w [] [] w' := by
  refine calls_of_T [] 9 [] Tryz.func48 rfl Tryz.ntmps48 (by simp) (WS.refl _ _) ?_
  refine T.seq ?_
  refine T.text [.l, .l, .l, .l] rfl ?_
  refine J.box 3 rfl rfl (wc x0) rfl rfl (fun g3 hg3 => ?_)
  refine J.box 4 rfl rfl (wc x1) rfl rfl (fun g4 hg4 => ?_)
  refine J.box 5 rfl rfl (wc x2) rfl rfl (fun g5 hg5 => ?_)
  refine J.alloc 6 rfl zero24 [.int .u64 0, .int .u64 0, .int .u64 0, .int .u64 0] rfl rfl (fun g6 hg6 => ?_)
  refine J.end ?_
  refine X.then ?_
  refine T.seq ?_
  refine T.text [.l, .l, .l] rfl ?_
  refine J.loadN (k := .l) trivial 3 rfl rfl agg24 (wc x0) rfl rfl rfl ?_
  refine J.call0 (k := .l) trivial fok49 rfl rfl (fun w hw => We.Not w _) ?_
  refine J.store 6 rfl rfl rfl rfl (wc (notN x0)) rfl sz24 (by first | decide | exact Nat.le_refl _ | exact Nat.le_of_ble_eq_true rfl | (simp [rowN]; done) | (simp [rowN]; omega)) (by first | exact rowN_one _ _ | (simp; done) | (intro u hu; simp at hu; subst hu; rfl) | (intro u hu; simp at hu; rcases hu with rfl | rfl <;> rfl)) (by first | decide | exact Nat.zero_lt_succ _ | simp) trivial (wc (notN x0)) rfl ?_
  refine J.end ?_
  refine X.then ?_
  refine T.ret ?_
  exact X.ret1 rfl (RV.agg 6 rfl rfl agg24 (wc (notN x0)) (by rfl) (by rfl) rfl) (fun w' hw' => ⟨rfl, hw'.sub (Sub.nil _)⟩)

theorem clz (w : World) (x0 x1 x2 : Nat) :
    Calls Tryz.prog 54 [W x0, W x1, W x2].toArray w fun e w' => e = .returned (W (256 - bitLen (x0 % 2 ^ 256))) ∧ WS w [] [] w' := by
  refine calls_of_T [] 9 [] Tryz.func54 rfl Tryz.ntmps54 (by simp) (WS.refl _ _) ?_
  refine T.seq ?_
  refine T.text [.l, .l, .l, .l] rfl ?_
  refine J.box 3 rfl rfl (wc x0) rfl rfl (fun g3 hg3 => ?_)
  refine J.box 4 rfl rfl (wc x1) rfl rfl (fun g4 hg4 => ?_)
  refine J.box 5 rfl rfl (wc x2) rfl rfl (fun g5 hg5 => ?_)
  refine J.alloc 6 rfl zero24 [.int .u64 0, .int .u64 0, .int .u64 0, .int .u64 0] rfl rfl (fun g6 hg6 => ?_)
  refine J.end ?_
  refine X.then ?_
  refine T.seq ?_
  refine T.text [.l, .l, .l] rfl ?_
  refine J.loadN (k := .l) trivial 3 rfl rfl agg24 (wc x0) rfl rfl rfl ?_
  refine J.call0 (k := .l) trivial fok55 rfl rfl (fun w hw => We.Clz w _) ?_
  refine J.store 6 rfl rfl rfl rfl (wc (256 - bitLen (x0 % 2 ^ 256))) rfl sz24 (by first | decide | exact Nat.le_refl _ | exact Nat.le_of_ble_eq_true rfl | (simp [rowN]; done) | (simp [rowN]; omega)) (by first | exact rowN_one _ _ | (simp; done) | (intro u hu; simp at hu; subst hu; rfl) | (intro u hu; simp at hu; rcases hu with rfl | rfl <;> rfl)) (by first | decide | exact Nat.zero_lt_succ _ | simp) trivial (wc (256 - bitLen (x0 % 2 ^ 256))) rfl ?_
  refine J.end ?_
  refine X.then ?_
  refine T.ret ?_
  exact X.ret1 rfl (RV.agg 6 rfl rfl agg24 (wc (256 - bitLen (x0 % 2 ^ 256))) (by rfl) (by rfl) rfl) (fun w' hw' => ⟨rfl, hw'.sub (Sub.nil _)⟩)

def fvsOf (γ : Nat → Nat) : List Value := [.nilFunc, .func (.func 24) #[] [.pointer (some ⟨γ 4, 0, none⟩)].toArray, .func (.func 24) #[] [.pointer (some ⟨γ 6, 0, none⟩)].toArray, .func (.func 24) #[] [.pointer (some ⟨γ 8, 0, none⟩)].toArray, .func (.func 24) #[] [.pointer (some ⟨γ 10, 0, none⟩)].toArray, .func (.func 24) #[] [.pointer (some ⟨γ 12, 0, none⟩)].toArray, .func (.func 24) #[] [.pointer (some ⟨γ 14, 0, none⟩)].toArray, .func (.func 24) #[] [.pointer (some ⟨γ 16, 0, none⟩)].toArray, .func (.func 34) #[] #[], .func (.func 35) #[] #[], .func (.func 24) #[] [.pointer (some ⟨γ 18, 0, none⟩)].toArray, .func (.func 24) #[] [.pointer (some ⟨γ 20, 0, none⟩)].toArray, .nilFunc, .nilFunc, .nilFunc, .nilFunc, .func (.func 26) #[] [.pointer (some ⟨γ 22, 0, none⟩)].toArray, .func (.func 26) #[] [.pointer (some ⟨γ 24, 0, none⟩)].toArray, .func (.func 26) #[] [.pointer (some ⟨γ 26, 0, none⟩)].toArray, .func (.func 26) #[] [.pointer (some ⟨γ 28, 0, none⟩)].toArray, .func (.func 26) #[] [.pointer (some ⟨γ 30, 0, none⟩)].toArray, .func (.func 43) #[] #[], .func (.func 24) #[] [.pointer (some ⟨γ 32, 0, none⟩)].toArray, .func (.func 24) #[] [.pointer (some ⟨γ 34, 0, none⟩)].toArray, .func (.func 24) #[] [.pointer (some ⟨γ 36, 0, none⟩)].toArray, .func (.func 48) #[] #[], .func (.func 24) #[] [.pointer (some ⟨γ 38, 0, none⟩)].toArray, .func (.func 24) #[] [.pointer (some ⟨γ 40, 0, none⟩)].toArray, .func (.func 24) #[] [.pointer (some ⟨γ 42, 0, none⟩)].toArray, .func (.func 24) #[] [.pointer (some ⟨γ 44, 0, none⟩)].toArray, .func (.func 54) #[] #[]]
def entsOf (γ : Nat → Nat) : List (Nat × Ent) := [(4, ⟨some (γ 4), 37, [.func (.func 21) #[] #[]]⟩), (6, ⟨some (γ 6), 37, [.func (.func 28) #[] #[]]⟩), (8, ⟨some (γ 8), 37, [.func (.func 29) #[] #[]]⟩), (10, ⟨some (γ 10), 37, [.func (.func 30) #[] #[]]⟩), (12, ⟨some (γ 12), 37, [.func (.func 31) #[] #[]]⟩), (14, ⟨some (γ 14), 37, [.func (.func 32) #[] #[]]⟩), (16, ⟨some (γ 16), 37, [.func (.func 33) #[] #[]]⟩), (18, ⟨some (γ 18), 37, [.func (.func 36) #[] #[]]⟩), (20, ⟨some (γ 20), 37, [.func (.func 37) #[] #[]]⟩), (32, ⟨some (γ 32), 37, [.func (.func 45) #[] #[]]⟩), (34, ⟨some (γ 34), 37, [.func (.func 46) #[] #[]]⟩), (36, ⟨some (γ 36), 37, [.func (.func 47) #[] #[]]⟩), (38, ⟨some (γ 38), 37, [.func (.func 50) #[] #[]]⟩), (40, ⟨some (γ 40), 37, [.func (.func 51) #[] #[]]⟩), (42, ⟨some (γ 42), 37, [.func (.func 52) #[] #[]]⟩), (44, ⟨some (γ 44), 37, [.func (.func 53) #[] #[]]⟩), (22, ⟨some (γ 22), 41, [.func (.func 38) #[] #[]]⟩), (24, ⟨some (γ 24), 41, [.func (.func 39) #[] #[]]⟩), (26, ⟨some (γ 26), 41, [.func (.func 40) #[] #[]]⟩), (28, ⟨some (γ 28), 41, [.func (.func 41) #[] #[]]⟩), (30, ⟨some (γ 30), 41, [.func (.func 42) #[] #[]]⟩)]
theorem fvs_one (γ : Nat → Nat) : ∀ u ∈ fvsOf γ, u.oneCell' = true := by
  intro u hu
  simp only [fvsOf, List.mem_cons, List.not_mem_nil, or_false] at hu
  rcases hu with rfl | rfl | rfl | rfl | rfl | rfl | rfl | rfl | rfl | rfl | rfl | rfl | rfl | rfl | rfl | rfl | rfl | rfl | rfl | rfl | rfl | rfl | rfl | rfl | rfl | rfl | rfl | rfl | rfl | rfl | rfl <;> rfl
set_option maxHeartbeats 2000000 in
theorem works (w : World) :
    Calls Tryz.prog 8 [].toArray w fun e w' => ∃ γ : Nat → Nat, e = .returned (.agg (fvsOf γ).toArray) ∧ WS w [] (sh (entsOf γ)) w' := by
  refine calls_of_T [] 46 [] Tryz.func8 rfl Tryz.ntmps8 (by simp) (WS.refl _ _) ?_
  refine T.seq ?_
  refine T.text [.l] rfl ?_
  refine J.alloc 0 rfl zero35 [.nilFunc, .nilFunc, .nilFunc, .nilFunc, .nilFunc, .nilFunc, .nilFunc, .nilFunc, .nilFunc, .nilFunc, .nilFunc, .nilFunc, .nilFunc, .nilFunc, .nilFunc, .nilFunc, .nilFunc, .nilFunc, .nilFunc, .nilFunc, .nilFunc, .nilFunc, .nilFunc, .nilFunc, .nilFunc, .nilFunc, .nilFunc, .nilFunc, .nilFunc, .nilFunc, .nilFunc] rfl rfl (fun g0 hg0 => ?_)
  refine J.end ?_
  refine X.then ?_
  refine T.seq ?_
  refine T.text [.l] rfl ?_
  refine J.assign rfl rfl ?_
  refine J.end ?_
  refine X.then ?_
  refine T.seq ?_
  refine T.text [.l] rfl ?_
  refine J.assign rfl rfl ?_
  refine J.end ?_
  refine X.then ?_
  refine T.seq ?_
  refine T.text [.l, .l, .l, .l, .l, .l, .l, .l, .l, .l, .l, .l, .l, .l, .l, .l, .l, .l, .l, .l, .l, .l, .l, .l, .l, .l, .l, .l, .l, .l, .l, .l, .l, .l, .l, .l, .l, .l, .l, .l, .l, .l, .l, .l] rfl ?_
  refine J.move rfl rfl ?_
  refine J.callClos 4 rfl (t := 37) (f2 := 24) (fv := .func (.func 21) #[] #[]) fok23 rfl rfl rfl (fun w hw => Wg.two w _) (fun g4 hg4 => ?_)
  refine J.move rfl rfl ?_
  refine J.callClos 6 rfl (t := 37) (f2 := 24) (fv := .func (.func 28) #[] #[]) fok23 rfl rfl rfl (fun w hw => Wg.two w _) (fun g6 hg6 => ?_)
  refine J.move rfl rfl ?_
  refine J.callClos 8 rfl (t := 37) (f2 := 24) (fv := .func (.func 29) #[] #[]) fok23 rfl rfl rfl (fun w hw => Wg.two w _) (fun g8 hg8 => ?_)
  refine J.move rfl rfl ?_
  refine J.callClos 10 rfl (t := 37) (f2 := 24) (fv := .func (.func 30) #[] #[]) fok23 rfl rfl rfl (fun w hw => Wg.two w _) (fun g10 hg10 => ?_)
  refine J.move rfl rfl ?_
  refine J.callClos 12 rfl (t := 37) (f2 := 24) (fv := .func (.func 31) #[] #[]) fok23 rfl rfl rfl (fun w hw => Wg.two w _) (fun g12 hg12 => ?_)
  refine J.move rfl rfl ?_
  refine J.callClos 14 rfl (t := 37) (f2 := 24) (fv := .func (.func 32) #[] #[]) fok23 rfl rfl rfl (fun w hw => Wg.two w _) (fun g14 hg14 => ?_)
  refine J.move rfl rfl ?_
  refine J.callClos 16 rfl (t := 37) (f2 := 24) (fv := .func (.func 33) #[] #[]) fok23 rfl rfl rfl (fun w hw => Wg.two w _) (fun g16 hg16 => ?_)
  refine J.move rfl rfl ?_
  refine J.callClos 18 rfl (t := 37) (f2 := 24) (fv := .func (.func 36) #[] #[]) fok23 rfl rfl rfl (fun w hw => Wg.two w _) (fun g18 hg18 => ?_)
  refine J.move rfl rfl ?_
  refine J.callClos 20 rfl (t := 37) (f2 := 24) (fv := .func (.func 37) #[] #[]) fok23 rfl rfl rfl (fun w hw => Wg.two w _) (fun g20 hg20 => ?_)
  refine J.move rfl rfl ?_
  refine J.callClos 22 rfl (t := 41) (f2 := 26) (fv := .func (.func 38) #[] #[]) fok25 rfl rfl rfl (fun w hw => Wg.is_ w _) (fun g22 hg22 => ?_)
  refine J.move rfl rfl ?_
  refine J.callClos 24 rfl (t := 41) (f2 := 26) (fv := .func (.func 39) #[] #[]) fok25 rfl rfl rfl (fun w hw => Wg.is_ w _) (fun g24 hg24 => ?_)
  refine J.move rfl rfl ?_
  refine J.callClos 26 rfl (t := 41) (f2 := 26) (fv := .func (.func 40) #[] #[]) fok25 rfl rfl rfl (fun w hw => Wg.is_ w _) (fun g26 hg26 => ?_)
  refine J.move rfl rfl ?_
  refine J.callClos 28 rfl (t := 41) (f2 := 26) (fv := .func (.func 41) #[] #[]) fok25 rfl rfl rfl (fun w hw => Wg.is_ w _) (fun g28 hg28 => ?_)
  refine J.move rfl rfl ?_
  refine J.callClos 30 rfl (t := 41) (f2 := 26) (fv := .func (.func 42) #[] #[]) fok25 rfl rfl rfl (fun w hw => Wg.is_ w _) (fun g30 hg30 => ?_)
  refine J.move rfl rfl ?_
  refine J.callClos 32 rfl (t := 37) (f2 := 24) (fv := .func (.func 45) #[] #[]) fok23 rfl rfl rfl (fun w hw => Wg.two w _) (fun g32 hg32 => ?_)
  refine J.move rfl rfl ?_
  refine J.callClos 34 rfl (t := 37) (f2 := 24) (fv := .func (.func 46) #[] #[]) fok23 rfl rfl rfl (fun w hw => Wg.two w _) (fun g34 hg34 => ?_)
  refine J.move rfl rfl ?_
  refine J.callClos 36 rfl (t := 37) (f2 := 24) (fv := .func (.func 47) #[] #[]) fok23 rfl rfl rfl (fun w hw => Wg.two w _) (fun g36 hg36 => ?_)
  refine J.move rfl rfl ?_
  refine J.callClos 38 rfl (t := 37) (f2 := 24) (fv := .func (.func 50) #[] #[]) fok23 rfl rfl rfl (fun w hw => Wg.two w _) (fun g38 hg38 => ?_)
  refine J.move rfl rfl ?_
  refine J.callClos 40 rfl (t := 37) (f2 := 24) (fv := .func (.func 51) #[] #[]) fok23 rfl rfl rfl (fun w hw => Wg.two w _) (fun g40 hg40 => ?_)
  refine J.move rfl rfl ?_
  refine J.callClos 42 rfl (t := 37) (f2 := 24) (fv := .func (.func 52) #[] #[]) fok23 rfl rfl rfl (fun w hw => Wg.two w _) (fun g42 hg42 => ?_)
  refine J.move rfl rfl ?_
  refine J.callClos 44 rfl (t := 37) (f2 := 24) (fv := .func (.func 53) #[] #[]) fok23 rfl rfl rfl (fun w hw => Wg.two w _) (fun g44 hg44 => ?_)
  refine J.build rfl rfl (.agg ([.nilFunc, .func (.func 24) #[] [.pointer (some ⟨g4, 0, none⟩)].toArray, .func (.func 24) #[] [.pointer (some ⟨g6, 0, none⟩)].toArray, .func (.func 24) #[] [.pointer (some ⟨g8, 0, none⟩)].toArray, .func (.func 24) #[] [.pointer (some ⟨g10, 0, none⟩)].toArray, .func (.func 24) #[] [.pointer (some ⟨g12, 0, none⟩)].toArray, .func (.func 24) #[] [.pointer (some ⟨g14, 0, none⟩)].toArray, .func (.func 24) #[] [.pointer (some ⟨g16, 0, none⟩)].toArray, .func (.func 34) #[] #[], .func (.func 35) #[] #[], .func (.func 24) #[] [.pointer (some ⟨g18, 0, none⟩)].toArray, .func (.func 24) #[] [.pointer (some ⟨g20, 0, none⟩)].toArray, .nilFunc, .nilFunc, .nilFunc, .nilFunc, .func (.func 26) #[] [.pointer (some ⟨g22, 0, none⟩)].toArray, .func (.func 26) #[] [.pointer (some ⟨g24, 0, none⟩)].toArray, .func (.func 26) #[] [.pointer (some ⟨g26, 0, none⟩)].toArray, .func (.func 26) #[] [.pointer (some ⟨g28, 0, none⟩)].toArray, .func (.func 26) #[] [.pointer (some ⟨g30, 0, none⟩)].toArray, .func (.func 43) #[] #[], .func (.func 24) #[] [.pointer (some ⟨g32, 0, none⟩)].toArray, .func (.func 24) #[] [.pointer (some ⟨g34, 0, none⟩)].toArray, .func (.func 24) #[] [.pointer (some ⟨g36, 0, none⟩)].toArray, .func (.func 48) #[] #[], .func (.func 24) #[] [.pointer (some ⟨g38, 0, none⟩)].toArray, .func (.func 24) #[] [.pointer (some ⟨g40, 0, none⟩)].toArray, .func (.func 24) #[] [.pointer (some ⟨g42, 0, none⟩)].toArray, .func (.func 24) #[] [.pointer (some ⟨g44, 0, none⟩)].toArray, .func (.func 54) #[] #[]] : List Value).toArray) (fun w => by kernel_rfl) ?_
  refine J.store 0 rfl rfl rfl rfl (fvsOf (fun i => match i with | 4 => g4 | 6 => g6 | 8 => g8 | 10 => g10 | 12 => g12 | 14 => g14 | 16 => g16 | 18 => g18 | 20 => g20 | 32 => g32 | 34 => g34 | 36 => g36 | 38 => g38 | 40 => g40 | 42 => g42 | 44 => g44 | 22 => g22 | 24 => g24 | 26 => g26 | 28 => g28 | 30 => g30 | _ => 0)) rfl sz35 (by first | decide | exact Nat.le_refl _ | exact Nat.le_of_ble_eq_true rfl | (simp [rowN]; done) | (simp [rowN]; omega)) (fvs_one _) (by first | decide | exact Nat.zero_lt_succ _ | simp) trivial (fvsOf (fun i => match i with | 4 => g4 | 6 => g6 | 8 => g8 | 10 => g10 | 12 => g12 | 14 => g14 | 16 => g16 | 18 => g18 | 20 => g20 | 32 => g32 | 34 => g34 | 36 => g36 | 38 => g38 | 40 => g40 | 42 => g42 | 44 => g44 | 22 => g22 | 24 => g24 | 26 => g26 | 28 => g28 | 30 => g30 | _ => 0)) rfl ?_
  refine J.end ?_
  refine X.then ?_
  refine T.ret ?_
  exact X.ret1 rfl (RV.agg 0 rfl rfl agg35 (fvsOf (fun i => match i with | 4 => g4 | 6 => g6 | 8 => g8 | 10 => g10 | 12 => g12 | 14 => g14 | 16 => g16 | 18 => g18 | 20 => g20 | 32 => g32 | 34 => g34 | 36 => g36 | 38 => g38 | 40 => g40 | 42 => g42 | 44 => g44 | 22 => g22 | 24 => g24 | 26 => g26 | 28 => g28 | 30 => g30 | _ => 0)) (by rfl) (by rfl) rfl) (fun w' hw' => ⟨(fun i => match i with | 4 => g4 | 6 => g6 | 8 => g8 | 10 => g10 | 12 => g12 | 14 => g14 | 16 => g16 | 18 => g18 | 20 => g20 | 32 => g32 | 34 => g34 | 36 => g36 | 38 => g38 | 40 => g40 | 42 => g42 | 44 => g44 | 22 => g22 | 24 => g24 | 26 => g26 | 28 => g28 | 30 => g30 | _ => 0), rfl, (hw'.sub (by unfold entsOf; repeat (first | exact Sub.nil _ | refine Sub.cons rfl ?_))).sh⟩)
end Go.Proofs.YtegociefcfcihaaGreatDoor.Wg
