/-
  Walks, printed by gen.py: what each function hands back, said of numbers.
  Conditions: those that each theorem bears.
-/
import Derived.Test.YtegociefcfcihaaDoorChecked
import Derived.Test.YtegociefcfcihaaDoorFu
import Derived.Test.YtegociefcfcihaaDoorWa
import Derived.Test.YtegociefcfcihaaDoorWb
import Derived.Test.YtegociefcfcihaaDoorWe
import Derived.Test.YtegociefcfcihaaDoorWh
import Derived.Test.YtegociefcfcihaaDoorWt
set_option linter.unusedVariables false
set_option maxRecDepth 20000
namespace Go.Proofs.YtegociefcfcihaaDoor.Wk
open Go Go.Fw

theorem sz39 : SizeT Tryd.prog 39 32 := (by unfold SizeT; kernel_rfl)
theorem zero8 : ZeroT Tryd.prog 67 (.agg (rowN .u64 (lg 0)).toArray) := (by unfold ZeroT; kernel_rfl)
theorem one25 : OneT Tryd.prog 25 := ⟨⟨_, Tryd.underlying25, rfl⟩, by kernel_rfl⟩
theorem one27 : OneT Tryd.prog 27 := ⟨⟨_, Tryd.underlying27, rfl⟩, by kernel_rfl⟩
theorem fok153 : FnOk Tryd.prog 153 := FnOk.mk' Tryd.func153 (by kernel_rfl) rfl
theorem fok23 : FnOk Tryd.prog 23 := FnOk.mk' Tryd.func23 (by kernel_rfl) rfl
theorem fok27 : FnOk Tryd.prog 27 := FnOk.mk' Tryd.func27 (by kernel_rfl) rfl
theorem fok25 : FnOk Tryd.prog 25 := FnOk.mk' Tryd.func25 (by kernel_rfl) rfl
theorem fok29 : FnOk Tryd.prog 29 := FnOk.mk' Tryd.func29 (by kernel_rfl) rfl
theorem fok34 : FnOk Tryd.prog 34 := FnOk.mk' Tryd.func34 (by kernel_rfl) rfl
theorem fok31 : FnOk Tryd.prog 31 := FnOk.mk' Tryd.func31 (by kernel_rfl) rfl
theorem fok36 : FnOk Tryd.prog 36 := FnOk.mk' Tryd.func36 (by kernel_rfl) rfl
theorem fok46 : FnOk Tryd.prog 46 := FnOk.mk' Tryd.func46 (by kernel_rfl) rfl
theorem fok48 : FnOk Tryd.prog 48 := FnOk.mk' Tryd.func48 (by kernel_rfl) rfl
theorem fok50 : FnOk Tryd.prog 50 := FnOk.mk' Tryd.func50 (by kernel_rfl) rfl
theorem fok44 : FnOk Tryd.prog 44 := FnOk.mk' Tryd.func44 (by kernel_rfl) rfl
theorem fok155 : FnOk Tryd.prog 155 := FnOk.mk' Tryd.func155 (by kernel_rfl) rfl
theorem fok54 : FnOk Tryd.prog 54 := FnOk.mk' Tryd.func54 (by kernel_rfl) rfl
theorem fok55 : FnOk Tryd.prog 55 := FnOk.mk' Tryd.func55 (by kernel_rfl) rfl
theorem fok38 : FnOk Tryd.prog 38 := FnOk.mk' Tryd.func38 (by kernel_rfl) rfl
theorem fok40 : FnOk Tryd.prog 40 := FnOk.mk' Tryd.func40 (by kernel_rfl) rfl
theorem fok79 : FnOk Tryd.prog 79 := FnOk.mk' Tryd.func79 (by kernel_rfl) rfl
theorem fok157 : FnOk Tryd.prog 157 := FnOk.mk' Tryd.func157 (by kernel_rfl) rfl
theorem fok62 : FnOk Tryd.prog 62 := FnOk.mk' Tryd.func62 (by kernel_rfl) rfl
theorem fok64 : FnOk Tryd.prog 64 := FnOk.mk' Tryd.func64 (by kernel_rfl) rfl
theorem fok66 : FnOk Tryd.prog 66 := FnOk.mk' Tryd.func66 (by kernel_rfl) rfl
theorem fok158 : FnOk Tryd.prog 158 := FnOk.mk' Tryd.func158 (by kernel_rfl) rfl
theorem fok69 : FnOk Tryd.prog 69 := FnOk.mk' Tryd.func69 (by kernel_rfl) rfl
theorem fok59 : FnOk Tryd.prog 59 := FnOk.mk' Tryd.func59 (by kernel_rfl) rfl
theorem fok60 : FnOk Tryd.prog 60 := FnOk.mk' Tryd.func60 (by kernel_rfl) rfl
theorem fok42 : FnOk Tryd.prog 42 := FnOk.mk' Tryd.func42 (by kernel_rfl) rfl
theorem fok159 : FnOk Tryd.prog 159 := FnOk.mk' Tryd.func159 (by kernel_rfl) rfl
theorem func98T : FuncT Tryd.prog 98 := ⟨_, _, _, Tryd.underlying98⟩
theorem fok148 : FnOk Tryd.prog 148 := FnOk.mk' Tryd.func148 (by kernel_rfl) rfl
theorem zero24 : ZeroT Tryd.prog 24 (.agg ([.int .u64 0, .int .u64 0, .int .u64 0, .int .u64 0]).toArray) := (by unfold ZeroT; kernel_rfl)
theorem sz24 : SizeT Tryd.prog 24 4 := (by unfold SizeT; kernel_rfl)
theorem agg24 : AggT Tryd.prog 24 4 := ⟨⟨_, Tryd.underlying24, rfl⟩, by kernel_rfl⟩
theorem fok120 : FnOk Tryd.prog 120 := FnOk.mk' Tryd.func120 (by kernel_rfl) rfl
theorem sz22 : SizeT Tryd.prog 22 1 := (by unfold SizeT; kernel_rfl)
theorem arr24 : ArrT Tryd.prog 24 4 22 1 := ⟨Tryd.underlying24, sz22⟩
theorem one22 : OneT Tryd.prog 22 := ⟨⟨_, Tryd.underlying22, rfl⟩, by kernel_rfl⟩
theorem eqw24 : EqT Tryd.prog 24 := ⟨⟨22, arr24, one22, Tryd.underlying22⟩, by kernel_rfl⟩
theorem fok105 : FnOk Tryd.prog 105 := FnOk.mk' Tryd.func105 (by kernel_rfl) rfl
theorem fok53 : FnOk Tryd.prog 53 := FnOk.mk' Tryd.func53 (by kernel_rfl) rfl
theorem fok85 : FnOk Tryd.prog 85 := FnOk.mk' Tryd.func85 (by kernel_rfl) rfl
theorem fok57 : FnOk Tryd.prog 57 := FnOk.mk' Tryd.func57 (by kernel_rfl) rfl

theorem one (w : World) :
    Calls Tryd.prog 52 [].toArray w fun e w' => e = .returned (W (1)) ∧ WS w [] [] w' := by
  refine calls_of_T [] 2 [] Tryd.func52 rfl Tryd.ntmps52 (by simp) (WS.refl _ _) ?_
  refine T.seq ?_
  refine T.text [.l] rfl ?_
  refine J.alloc 0 rfl zero24 [.int .u64 0, .int .u64 0, .int .u64 0, .int .u64 0] rfl rfl (fun g0 hg0 => ?_)
  refine J.end ?_
  refine X.then ?_
  refine T.seq ?_
  refine T.text [.l, .l] rfl ?_
  refine J.build rfl rfl (W 1) (fun w => by kernel_rfl) ?_
  refine J.store 0 rfl rfl rfl rfl (wc 1) rfl sz24 (by first | decide | exact Nat.le_refl _ | exact Nat.le_of_ble_eq_true rfl | (simp [rowN]; done) | (simp [rowN]; omega)) (by first | exact rowN_one _ _ | (simp; done) | (intro u hu; simp at hu; subst hu; rfl) | (intro u hu; simp at hu; rcases hu with rfl | rfl <;> rfl)) (by first | decide | exact Nat.zero_lt_succ _ | simp) trivial (wc 1) rfl ?_
  refine J.end ?_
  refine X.then ?_
  refine T.ret ?_
  exact X.ret1 rfl (RV.agg 0 rfl rfl agg24 (wc 1) (by rfl) (by rfl) rfl) (fun w' hw' => ⟨rfl, hw'.sub (Sub.nil _)⟩)

theorem two (w : World) :
    Calls Tryd.prog 58 [].toArray w fun e w' => e = .returned (W (2)) ∧ WS w [] [] w' := by
  refine calls_of_T [] 2 [] Tryd.func58 rfl Tryd.ntmps58 (by simp) (WS.refl _ _) ?_
  refine T.seq ?_
  refine T.text [.l] rfl ?_
  refine J.alloc 0 rfl zero24 [.int .u64 0, .int .u64 0, .int .u64 0, .int .u64 0] rfl rfl (fun g0 hg0 => ?_)
  refine J.end ?_
  refine X.then ?_
  refine T.seq ?_
  refine T.text [.l, .l] rfl ?_
  refine J.build rfl rfl (W 2) (fun w => by kernel_rfl) ?_
  refine J.store 0 rfl rfl rfl rfl (wc 2) rfl sz24 (by first | decide | exact Nat.le_refl _ | exact Nat.le_of_ble_eq_true rfl | (simp [rowN]; done) | (simp [rowN]; omega)) (by first | exact rowN_one _ _ | (simp; done) | (intro u hu; simp at hu; subst hu; rfl) | (intro u hu; simp at hu; rcases hu with rfl | rfl <;> rfl)) (by first | decide | exact Nat.zero_lt_succ _ | simp) trivial (wc 2) rfl ?_
  refine J.end ?_
  refine X.then ?_
  refine T.ret ?_
  exact X.ret1 rfl (RV.agg 0 rfl rfl agg24 (wc 2) (by rfl) (by rfl) rfl) (fun w' hw' => ⟨rfl, hw'.sub (Sub.nil _)⟩)

theorem most (w : World) :
    Calls Tryd.prog 53 [].toArray w fun e w' => e = .returned (W (115792089237316195423570985008687907853269984665640564039457584007913129639935)) ∧ WS w [] [] w' := by
  refine calls_of_T [] 2 [] Tryd.func53 rfl Tryd.ntmps53 (by simp) (WS.refl _ _) ?_
  refine T.seq ?_
  refine T.text [.l] rfl ?_
  refine J.alloc 0 rfl zero24 [.int .u64 0, .int .u64 0, .int .u64 0, .int .u64 0] rfl rfl (fun g0 hg0 => ?_)
  refine J.end ?_
  refine X.then ?_
  refine T.seq ?_
  refine T.text [.l, .l] rfl ?_
  refine J.build rfl rfl (W 115792089237316195423570985008687907853269984665640564039457584007913129639935) (fun w => by kernel_rfl) ?_
  refine J.store 0 rfl rfl rfl rfl (wc 115792089237316195423570985008687907853269984665640564039457584007913129639935) rfl sz24 (by first | decide | exact Nat.le_refl _ | exact Nat.le_of_ble_eq_true rfl | (simp [rowN]; done) | (simp [rowN]; omega)) (by first | exact rowN_one _ _ | (simp; done) | (intro u hu; simp at hu; subst hu; rfl) | (intro u hu; simp at hu; rcases hu with rfl | rfl <;> rfl)) (by first | decide | exact Nat.zero_lt_succ _ | simp) trivial (wc 115792089237316195423570985008687907853269984665640564039457584007913129639935) rfl ?_
  refine J.end ?_
  refine X.then ?_
  refine T.ret ?_
  exact X.ret1 rfl (RV.agg 0 rfl rfl agg24 (wc 115792089237316195423570985008687907853269984665640564039457584007913129639935) (by rfl) (by rfl) rfl) (fun w' hw' => ⟨rfl, hw'.sub (Sub.nil _)⟩)

theorem top (w : World) :
    Calls Tryd.prog 85 [].toArray w fun e w' => e = .returned (W (57896044618658097711785492504343953926634992332820282019728792003956564819968)) ∧ WS w [] [] w' := by
  refine calls_of_T [] 2 [] Tryd.func85 rfl Tryd.ntmps85 (by simp) (WS.refl _ _) ?_
  refine T.seq ?_
  refine T.text [.l] rfl ?_
  refine J.alloc 0 rfl zero24 [.int .u64 0, .int .u64 0, .int .u64 0, .int .u64 0] rfl rfl (fun g0 hg0 => ?_)
  refine J.end ?_
  refine X.then ?_
  refine T.seq ?_
  refine T.text [.l, .l] rfl ?_
  refine J.build rfl rfl (W 57896044618658097711785492504343953926634992332820282019728792003956564819968) (fun w => by kernel_rfl) ?_
  refine J.store 0 rfl rfl rfl rfl (wc 57896044618658097711785492504343953926634992332820282019728792003956564819968) rfl sz24 (by first | decide | exact Nat.le_refl _ | exact Nat.le_of_ble_eq_true rfl | (simp [rowN]; done) | (simp [rowN]; omega)) (by first | exact rowN_one _ _ | (simp; done) | (intro u hu; simp at hu; subst hu; rfl) | (intro u hu; simp at hu; rcases hu with rfl | rfl <;> rfl)) (by first | decide | exact Nat.zero_lt_succ _ | simp) trivial (wc 57896044618658097711785492504343953926634992332820282019728792003956564819968) rfl ?_
  refine J.end ?_
  refine X.then ?_
  refine T.ret ?_
  exact X.ret1 rfl (RV.agg 0 rfl rfl agg24 (wc 57896044618658097711785492504343953926634992332820282019728792003956564819968) (by rfl) (by rfl) rfl) (fun w' hw' => ⟨rfl, hw'.sub (Sub.nil _)⟩)

theorem awake (w : World) :
    Calls Tryd.prog 33 [].toArray w fun e w' => e = .returned (.bool true) ∧ WS w [] [] w' := by
  refine calls_of_T [] 30 [] Tryd.func33 rfl Tryd.ntmps33 (by simp) (WS.refl _ _) ?_
  refine T.seq ?_
  refine T.text [.l] rfl ?_
  refine J.assign rfl rfl ?_
  refine J.end ?_
  refine X.then ?_
  refine T.seq ?_
  refine T.text [.l, .l, .l] rfl ?_
  refine J.build rfl rfl (W 2) (fun w => by kernel_rfl) ?_
  refine J.alloc 1 rfl zero24 [.int .u64 0, .int .u64 0, .int .u64 0, .int .u64 0] rfl rfl (fun g1 hg1 => ?_)
  refine J.store 1 rfl rfl rfl rfl (wc 2) rfl sz24 (by first | decide | exact Nat.le_refl _ | exact Nat.le_of_ble_eq_true rfl | (simp [rowN]; done) | (simp [rowN]; omega)) (by first | exact rowN_one _ _ | (simp; done) | (intro u hu; simp at hu; subst hu; rfl) | (intro u hu; simp at hu; rcases hu with rfl | rfl <;> rfl)) (by first | decide | exact Nat.zero_lt_succ _ | simp) trivial (wc 2) rfl ?_
  refine J.end ?_
  refine X.then ?_
  refine T.seq ?_
  refine T.text [.l, .l, .l, .l, .l, .l, .l, .l, .l, .l] rfl ?_
  refine J.loadN (k := .l) trivial 1 rfl rfl agg24 (wc 2) rfl rfl rfl ?_
  refine J.loadN (k := .l) trivial 1 rfl rfl agg24 (wc 2) rfl rfl rfl ?_
  refine J.loadN (k := .l) trivial 1 rfl rfl agg24 (wc 2) rfl rfl rfl ?_
  refine J.call0 (k := .l) trivial fok120 rfl rfl (fun w hw => Wh.DoYes w 1 _ _ _ _ rfl) ?_
  refine J.move rfl rfl ?_
  refine J.extract rfl rfl rfl ?_
  refine J.extract rfl rfl rfl ?_
  refine J.alloc 2 rfl zero24 [.int .u64 0, .int .u64 0, .int .u64 0, .int .u64 0] rfl rfl (fun g2 hg2 => ?_)
  refine J.store 2 rfl rfl rfl rfl (wc (2 + 2)) rfl sz24 (by first | decide | exact Nat.le_refl _ | exact Nat.le_of_ble_eq_true rfl | (simp [rowN]; done) | (simp [rowN]; omega)) (by first | exact rowN_one _ _ | (simp; done) | (intro u hu; simp at hu; subst hu; rfl) | (intro u hu; simp at hu; rcases hu with rfl | rfl <;> rfl)) (by first | decide | exact Nat.zero_lt_succ _ | simp) trivial (wc (2 + 2)) rfl ?_
  refine J.assign rfl rfl ?_
  refine J.end ?_
  refine X.then ?_
  refine T.seq ?_
  refine T.text [.l, .l, .l, .l, .l, .l, .l, .l, .l, .l, .l, .l, .l, .l, .l, .l, .l, .l, .l] rfl ?_
  refine J.loadN (k := .l) trivial 1 rfl rfl agg24 (wc 2) rfl rfl rfl ?_
  refine J.loadN (k := .l) trivial 1 rfl rfl agg24 (wc 2) rfl rfl rfl ?_
  refine J.call0 (k := .l) trivial fok23 rfl rfl (fun w hw => Wb.Add w _ _) ?_
  refine J.build rfl rfl (W 4) (fun w => by kernel_rfl) ?_
  refine J.eqW eqw24 rfl rfl rfl ?_
  refine J.as 16 (.bool true) rfl (by rw [decide_eq_true (by first | omega | rfl | assumption | (simp only [*]; done))]) ?_
  refine J.move rfl rfl ?_
  refine J.yes rfl rfl ?_
  refine J.move rfl rfl ?_
  refine J.pick_t rfl rfl rfl ?_
  refine J.move rfl rfl ?_
  refine J.yes rfl rfl ?_
  refine J.loadN (k := .l) trivial 2 rfl rfl agg24 (wc (2 + 2)) rfl rfl rfl ?_
  refine J.yes rfl rfl ?_
  refine J.build rfl rfl (W 4) (fun w => by kernel_rfl) ?_
  refine J.yes rfl rfl ?_
  refine J.eqW eqw24 rfl rfl rfl ?_
  refine J.as 23 (.bool true) rfl (by rw [decide_eq_true (by first | omega | rfl | assumption | (simp only [*]; done))]) ?_
  refine J.pick_t rfl rfl rfl ?_
  refine J.move rfl rfl ?_
  refine J.yes rfl rfl ?_
  refine J.loadN (k := .l) trivial 1 rfl rfl agg24 (wc 2) rfl rfl rfl ?_
  refine J.yes rfl rfl ?_
  refine J.call0 (k := .l) trivial fok105 rfl rfl (fun w hw => Wt.text2 w) ?_
  refine J.yes rfl rfl ?_
  refine J.eqStr (xs := [50]) (ys := [50]) rfl rfl rfl (by intro u hu; simp at hu; omega) (by intro u hu; simp at hu; omega) ?_
  refine J.as 28 (.bool true) rfl rfl ?_
  refine J.pick_t rfl rfl rfl ?_
  refine J.assign rfl rfl ?_
  refine J.end ?_
  refine X.then ?_
  refine T.ret ?_
  exact X.ret1 rfl (RV.tmp rfl) (fun w' hw' => ⟨rfl, hw'.sub (Sub.nil _)⟩)

theorem sign (w : World) (x0 : Nat) :
    Calls Tryd.prog 57 [W x0].toArray w fun e w' => e = .returned (.bool (decide (sgn x0))) ∧ WS w [] [] w' := by
  refine calls_of_T [] 12 [] Tryd.func57 rfl Tryd.ntmps57 (by simp) (WS.refl _ _) ?_
  refine T.seq ?_
  refine T.text [.l, .l] rfl ?_
  refine J.box 1 rfl rfl (wc x0) rfl rfl (fun g1 hg1 => ?_)
  refine J.assign rfl rfl ?_
  refine J.end ?_
  refine X.then ?_
  refine T.seq ?_
  refine T.draw [] [(0, .q), (1, .q), (2, .q), (3, .g), (4, .q), (5, .q), (6, .q), (7, .g), (8, .g), (9, .g)] (by kernel_rfl) (by kernel_rfl) ?_ (by repeat (first | exact Sub.nil _ | refine Sub.cons (by first | rfl | (rw [dgs_zero]; rfl) | (rw [List.drop_length]; rfl) | (simp; done) | (congr 2; omega) | (congr 3; omega)) ?_))
  refine J.call0 (k := .q) trivial fok53 rfl rfl (fun w hw => Wk.most w) ?_
  refine J.loadN (k := .q) trivial 1 rfl rfl agg24 (wc x0) rfl rfl rfl ?_
  refine J.call0 (k := .q) trivial fok54 rfl rfl (fun w hw => Wa.Lt w _ _) ?_
  refine J.move rfl rfl ?_
  refine J.split 6 rfl (fun h1 => ?_) (fun h1 => ?_)
  · skip
    refine J.no rfl rfl rfl rfl ?_
    refine J.no rfl rfl rfl rfl ?_
    refine J.no rfl rfl rfl rfl ?_
    refine J.no rfl rfl rfl rfl ?_
    refine J.pick_t rfl rfl rfl ?_
    refine J.assign rfl rfl ?_
    refine J.end ?_
    refine X.then ?_
    refine T.ret ?_
    exact X.ret1 rfl (RV.tmp rfl) (fun w' hw' => ⟨by congr 2; exact (decide_eq_true (by unfold sgn; omega)).symm, hw'.sub (Sub.nil _)⟩)
  · skip
    refine J.yes rfl rfl ?_
    refine J.loadN (k := .q) trivial 1 rfl rfl agg24 (wc x0) rfl rfl rfl ?_
    refine J.yes rfl rfl ?_
    refine J.call0 (k := .q) trivial fok85 rfl rfl (fun w hw => Wk.top w) ?_
    refine J.yes rfl rfl ?_
    refine J.call0 (k := .q) trivial fok54 rfl rfl (fun w hw => Wa.Lt w _ _) ?_
    refine J.yes rfl rfl ?_
    refine J.not rfl rfl (by rw [← decide_not]) ?_
    refine J.pick_f rfl rfl rfl ?_
    refine J.assign rfl rfl ?_
    refine J.end ?_
    refine X.then ?_
    refine T.ret ?_
    exact X.ret1 rfl (RV.tmp rfl) (fun w' hw' => ⟨by congr 2; exact decide_eq_decide.2 (by unfold sgn; omega), hw'.sub (Sub.nil _)⟩)

theorem without (w : World) (x0 : Nat) :
    Calls Tryd.prog 56 [W x0].toArray w fun e w' => e = .returned (W (absN x0)) ∧ WS w [] [] w' := by
  refine calls_of_T [] 9 [] Tryd.func56 rfl Tryd.ntmps56 (by simp) (WS.refl _ _) ?_
  refine T.seq ?_
  refine T.text [.l, .l] rfl ?_
  refine J.box 1 rfl rfl (wc x0) rfl rfl (fun g1 hg1 => ?_)
  refine J.alloc 2 rfl zero24 [.int .u64 0, .int .u64 0, .int .u64 0, .int .u64 0] rfl rfl (fun g2 hg2 => ?_)
  refine J.end ?_
  refine X.then ?_
  refine T.seq ?_
  refine T.seq ?_
  refine T.text [.l, .l] rfl ?_
  refine J.loadN (k := .l) trivial 1 rfl rfl agg24 (wc x0) rfl rfl rfl ?_
  refine J.call0 (k := .l) trivial fok57 rfl rfl (fun w hw => Wk.sign w _) ?_
  refine J.end ?_
  refine X.then ?_
  refine T.cond_dec rfl (fun h1 => ?_) (fun h1 => ?_)
  · skip
    refine T.seq ?_
    refine T.text [.l, .l, .l, .l] rfl ?_
    refine J.build rfl rfl (W 0) (fun w => by kernel_rfl) ?_
    refine J.loadN (k := .l) trivial 1 rfl rfl agg24 (wc x0) rfl rfl rfl ?_
    refine J.call0 (k := .l) trivial fok25 rfl rfl (fun w hw => Wb.Sub w _ _) ?_
    refine J.store 2 rfl rfl rfl rfl (wc (dif 0 x0)) rfl sz24 (by first | decide | exact Nat.le_refl _ | exact Nat.le_of_ble_eq_true rfl | (simp [rowN]; done) | (simp [rowN]; omega)) (by first | exact rowN_one _ _ | (simp; done) | (intro u hu; simp at hu; subst hu; rfl) | (intro u hu; simp at hu; rcases hu with rfl | rfl <;> rfl)) (by first | decide | exact Nat.zero_lt_succ _ | simp) trivial (wc (dif 0 x0)) rfl ?_
    refine J.end ?_
    refine X.then ?_
    refine T.ret ?_
    refine X.then_ret ?_
    exact X.ret1 rfl (RV.agg 2 rfl rfl agg24 (wc (dif 0 x0)) (by rfl) (by rfl) rfl) (fun w' hw' => ⟨retW (by unfold absN; rw [if_pos (by assumption)]; show negN x0 % 2 ^ 256 = _; rw [negN_mod]; unfold sgn at *; split <;> omega), hw'.sub (Sub.nil _)⟩)
  · skip
    refine T.skip ?_
    refine X.then ?_
    refine T.seq ?_
    refine T.text [.l, .l] rfl ?_
    refine J.loadN (k := .l) trivial 1 rfl rfl agg24 (wc x0) rfl rfl rfl ?_
    refine J.store 2 rfl rfl rfl rfl (wc x0) rfl sz24 (by first | decide | exact Nat.le_refl _ | exact Nat.le_of_ble_eq_true rfl | (simp [rowN]; done) | (simp [rowN]; omega)) (by first | exact rowN_one _ _ | (simp; done) | (intro u hu; simp at hu; subst hu; rfl) | (intro u hu; simp at hu; rcases hu with rfl | rfl <;> rfl)) (by first | decide | exact Nat.zero_lt_succ _ | simp) trivial (wc x0) rfl ?_
    refine J.end ?_
    refine X.then ?_
    refine T.ret ?_
    exact X.ret1 rfl (RV.agg 2 rfl rfl agg24 (wc x0) (by rfl) (by rfl) rfl) (fun w' hw' => ⟨retW (by unfold absN; rw [if_neg (by assumption)]; omega), hw'.sub (Sub.nil _)⟩)
end Go.Proofs.YtegociefcfcihaaDoor.Wk
