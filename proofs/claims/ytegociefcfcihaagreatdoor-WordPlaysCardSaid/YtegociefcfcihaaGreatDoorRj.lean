/-
  Walks, printed by gen.py: what each function hands back, said of numbers.
  Conditions: those that each theorem bears.
-/
import Derived.Test.YtegociefcfcihaaGreatDoorChecked
import Derived.Test.YtegociefcfcihaaGreatDoorFn
import Derived.Test.YtegociefcfcihaaGreatDoorFs
import Derived.Test.YtegociefcfcihaaGreatDoorPz
import Derived.Test.YtegociefcfcihaaGreatDoorRa
import Derived.Test.YtegociefcfcihaaGreatDoorRc
import Derived.Test.YtegociefcfcihaaGreatDoorRe
import Derived.Test.YtegociefcfcihaaGreatDoorRf
import Derived.Test.YtegociefcfcihaaGreatDoorRi
set_option linter.unusedVariables false
set_option maxRecDepth 20000
namespace Go.Proofs.YtegociefcfcihaaGreatDoor.Rj
open Go Go.Fw

theorem zero256 : ZeroT Tryz.prog 60 (.agg (rowN .i64 (List.replicate 256 0)).toArray) := (by unfold ZeroT; kernel_rfl)
theorem sz60 : SizeT Tryz.prog 60 256 := (by unfold SizeT; kernel_rfl)
theorem zero24 : ZeroT Tryz.prog 24 (.agg ([.int .u64 0, .int .u64 0, .int .u64 0, .int .u64 0]).toArray) := (by unfold ZeroT; kernel_rfl)
theorem agg24 : AggT Tryz.prog 24 4 := ⟨⟨_, Tryz.underlying24, rfl⟩, by kernel_rfl⟩
theorem fok64 : FnOk Tryz.prog 64 := FnOk.mk' Tryz.func64 (by kernel_rfl) rfl
theorem fok62 : FnOk Tryz.prog 62 := FnOk.mk' Tryz.func62 (by kernel_rfl) rfl
theorem sz24 : SizeT Tryz.prog 24 4 := (by unfold SizeT; kernel_rfl)
theorem fok63 : FnOk Tryz.prog 63 := FnOk.mk' Tryz.func63 (by kernel_rfl) rfl
theorem fok66 : FnOk Tryz.prog 66 := FnOk.mk' Tryz.func66 (by kernel_rfl) rfl
theorem fok65 : FnOk Tryz.prog 65 := FnOk.mk' Tryz.func65 (by kernel_rfl) rfl
theorem fok103 : FnOk Tryz.prog 103 := FnOk.mk' Tryz.func103 (by kernel_rfl) rfl
theorem fok76 : FnOk Tryz.prog 76 := FnOk.mk' Tryz.func76 (by kernel_rfl) rfl

theorem SDiv (w : World) (x0 : Nat) (x1 : Nat) :
    Calls Tryz.prog 13 [W x0, W x1].toArray w fun e w' => e = .returned (W (sdivN x0 x1)) ∧ WS w [] [] w' := by
  refine calls_of_T [] 27 [] Tryz.func13 rfl Tryz.ntmps13 (by simp) (WS.refl _ _) ?_
  refine T.seq ?_
  refine T.text [.l, .l, .l] rfl ?_
  refine J.box 2 rfl rfl (wc x0) rfl rfl (fun g2 hg2 => ?_)
  refine J.box 3 rfl rfl (wc x1) rfl rfl (fun g3 hg3 => ?_)
  refine J.alloc 4 rfl zero24 [.int .u64 0, .int .u64 0, .int .u64 0, .int .u64 0] rfl rfl (fun g4 hg4 => ?_)
  refine J.end ?_
  refine X.then ?_
  refine T.seq ?_
  refine T.text [.l, .l, .l] rfl ?_
  refine J.loadN (k := .l) trivial 3 rfl rfl agg24 (wc x1) rfl rfl rfl ?_
  refine J.callRow 9 rfl (t := 3) (kd := .i64) fok64 rfl rfl (fun w hw => Ri.size w _) (fun zs9 r9 hz9 hr9 => ?_)
  obtain ⟨hD9, hL9, hV9⟩ := hz9
  refine J.assign rfl rfl ?_
  refine J.end ?_
  refine X.then ?_
  refine T.seq ?_
  refine T.seq ?_
  refine T.text [.l, .l] rfl ?_
  refine J.move rfl rfl ?_
  refine J.call0 (k := .l) trivial fok62 rfl rfl (fun w hw => Ra.none_ w _ _ _ (hw.rowCs (k := 9) rfl) (by first | assumption | omega)) ?_
  refine J.end ?_
  refine X.then ?_
  refine T.cond_dec rfl (fun h1 => ?_) (fun h1 => ?_)
  · have hz : absN x1 = 0 := by omega
    refine T.seq ?_
    refine T.text [.l, .l] rfl ?_
    refine J.build rfl rfl (W 0) (fun w => by kernel_rfl) ?_
    refine J.store 4 rfl rfl rfl rfl (wc 0) rfl sz24 (by first | decide | exact Nat.le_refl _ | exact Nat.le_of_ble_eq_true rfl | (simp [rowN]; done) | (simp [rowN]; omega)) (by first | exact rowN_one _ _ | (simp; done) | (intro u hu; simp at hu; subst hu; rfl) | (intro u hu; simp at hu; rcases hu with rfl | rfl <;> rfl)) (by first | decide | exact Nat.zero_lt_succ _ | simp) trivial (wc 0) rfl ?_
    refine J.end ?_
    refine X.then ?_
    refine T.ret ?_
    refine X.then_ret ?_
    exact X.ret1 rfl (RV.agg 4 rfl rfl agg24 (wc 0) (by rfl) (by rfl) rfl) (fun w' hw' => ⟨retW (by rw [sdivN_zero hz]), hw'.sub (Sub.nil _)⟩)
  · have hz : ¬ absN x1 = 0 := by omega
    have hp9 : 0 < vl zs9 := by omega
    refine T.skip ?_
    refine X.then ?_
    refine T.seq ?_
    refine T.text [.l, .l, .l, .l, .l, .l, .l, .l, .l] rfl ?_
    refine J.loadN (k := .l) trivial 2 rfl rfl agg24 (wc x0) rfl rfl rfl ?_
    refine J.callRow 15 rfl (t := 3) (kd := .i64) fok64 rfl rfl (fun w hw => Ri.size w _) (fun zs15 r15 hz15 hr15 => ?_)
    obtain ⟨hD15, hL15, hV15⟩ := hz15
    refine J.move rfl rfl ?_
    refine J.callRows2 17 7017 (by decide) rfl rfl (t := 3) (kd := .i64) fok63 rfl rfl (fun w hw => Rf.divide w _ _ _ (hw.rowCs (k := 15) rfl) _ _ _ (hw.rowCs (k := 9) rfl) (by assumption) (by omega) (by assumption) (by omega) (by first | assumption | omega)) (fun zs17 ys17 r17 q17 hz17 hr17 hq17 => ?_)
    obtain ⟨hD17, hL17, hV17, hE17, hM17, hW17⟩ := hz17
    refine J.move rfl rfl ?_
    refine J.extract rfl rfl rfl ?_
    refine J.extract rfl rfl rfl ?_
    refine J.assign rfl rfl ?_
    refine J.assign rfl rfl ?_
    refine J.end ?_
    refine X.then ?_
    refine T.seq ?_
    refine T.draw [] [(0, .g), (1, .q), (2, .q), (3, .q), (4, .q), (5, .g), (6, .q), (7, .l)] (by kernel_rfl) (by kernel_rfl) ?_ (by repeat (first | exact Sub.nil _ | refine Sub.cons (by first | rfl | (rw [dgs_zero]; rfl) | (rw [List.drop_length]; rfl) | (simp; done) | (congr 2; omega) | (congr 3; omega)) ?_))
    refine J.move rfl rfl ?_
    refine J.loadN (k := .q) trivial 2 rfl rfl agg24 (wc x0) rfl rfl rfl ?_
    refine J.call0 (k := .q) trivial fok66 rfl rfl (fun w hw => Ri.negative w _) ?_
    refine J.loadN (k := .q) trivial 3 rfl rfl agg24 (wc x1) rfl rfl rfl ?_
    refine J.call0 (k := .q) trivial fok66 rfl rfl (fun w hw => Ri.negative w _) ?_
    refine J.neqB Tryz.underlying4 rfl rfl rfl (by exact neqB_dec _ _) ?_
    refine J.call0 (k := .q) trivial fok65 rfl rfl (fun w hw => Ri.signed w _ _ _ (hw.rowCs (k := 17) rfl) (¬ decide (sgn x0) = decide (sgn x1)) (by assumption) (by omega)) ?_
    refine J.store 4 rfl rfl rfl rfl (wc (if ¬ decide (sgn x0) = decide (sgn x1) then negN (vl zs17) else vl zs17)) rfl sz24 (by first | decide | exact Nat.le_refl _ | exact Nat.le_of_ble_eq_true rfl | (simp [rowN]; done) | (simp [rowN]; omega)) (by first | exact rowN_one _ _ | (simp; done) | (intro u hu; simp at hu; subst hu; rfl) | (intro u hu; simp at hu; rcases hu with rfl | rfl <;> rfl)) (by first | decide | exact Nat.zero_lt_succ _ | simp) trivial (wc (if ¬ decide (sgn x0) = decide (sgn x1) then negN (vl zs17) else vl zs17)) rfl ?_
    refine J.end ?_
    refine X.then ?_
    refine T.ret ?_
    exact X.ret1 rfl (RV.agg 4 rfl rfl agg24 (wc (if ¬ decide (sgn x0) = decide (sgn x1) then negN (vl zs17) else vl zs17)) (by rfl) (by rfl) rfl) (fun w' hw' => ⟨retW (by rw [hV17, hV15, hV9, sdivN_nz hz]), hw'.sub (Sub.nil _)⟩)

theorem SMod (w : World) (x0 : Nat) (x1 : Nat) :
    Calls Tryz.prog 15 [W x0, W x1].toArray w fun e w' => e = .returned (W (smodN x0 x1)) ∧ WS w [] [] w' := by
  refine calls_of_T [] 24 [] Tryz.func15 rfl Tryz.ntmps15 (by simp) (WS.refl _ _) ?_
  refine T.seq ?_
  refine T.text [.l, .l, .l] rfl ?_
  refine J.box 2 rfl rfl (wc x0) rfl rfl (fun g2 hg2 => ?_)
  refine J.box 3 rfl rfl (wc x1) rfl rfl (fun g3 hg3 => ?_)
  refine J.alloc 4 rfl zero24 [.int .u64 0, .int .u64 0, .int .u64 0, .int .u64 0] rfl rfl (fun g4 hg4 => ?_)
  refine J.end ?_
  refine X.then ?_
  refine T.seq ?_
  refine T.text [.l, .l, .l] rfl ?_
  refine J.loadN (k := .l) trivial 3 rfl rfl agg24 (wc x1) rfl rfl rfl ?_
  refine J.callRow 9 rfl (t := 3) (kd := .i64) fok64 rfl rfl (fun w hw => Ri.size w _) (fun zs9 r9 hz9 hr9 => ?_)
  obtain ⟨hD9, hL9, hV9⟩ := hz9
  refine J.assign rfl rfl ?_
  refine J.end ?_
  refine X.then ?_
  refine T.seq ?_
  refine T.seq ?_
  refine T.text [.l, .l] rfl ?_
  refine J.move rfl rfl ?_
  refine J.call0 (k := .l) trivial fok62 rfl rfl (fun w hw => Ra.none_ w _ _ _ (hw.rowCs (k := 9) rfl) (by first | assumption | omega)) ?_
  refine J.end ?_
  refine X.then ?_
  refine T.cond_dec rfl (fun h1 => ?_) (fun h1 => ?_)
  · have hz : absN x1 = 0 := by omega
    refine T.seq ?_
    refine T.text [.l, .l] rfl ?_
    refine J.build rfl rfl (W 0) (fun w => by kernel_rfl) ?_
    refine J.store 4 rfl rfl rfl rfl (wc 0) rfl sz24 (by first | decide | exact Nat.le_refl _ | exact Nat.le_of_ble_eq_true rfl | (simp [rowN]; done) | (simp [rowN]; omega)) (by first | exact rowN_one _ _ | (simp; done) | (intro u hu; simp at hu; subst hu; rfl) | (intro u hu; simp at hu; rcases hu with rfl | rfl <;> rfl)) (by first | decide | exact Nat.zero_lt_succ _ | simp) trivial (wc 0) rfl ?_
    refine J.end ?_
    refine X.then ?_
    refine T.ret ?_
    refine X.then_ret ?_
    exact X.ret1 rfl (RV.agg 4 rfl rfl agg24 (wc 0) (by rfl) (by rfl) rfl) (fun w' hw' => ⟨retW (by rw [smodN_zero hz]), hw'.sub (Sub.nil _)⟩)
  · have hz : ¬ absN x1 = 0 := by omega
    have hp9 : 0 < vl zs9 := by omega
    refine T.skip ?_
    refine X.then ?_
    refine T.seq ?_
    refine T.text [.l, .l, .l, .l, .l, .l, .l, .l, .l] rfl ?_
    refine J.loadN (k := .l) trivial 2 rfl rfl agg24 (wc x0) rfl rfl rfl ?_
    refine J.callRow 15 rfl (t := 3) (kd := .i64) fok64 rfl rfl (fun w hw => Ri.size w _) (fun zs15 r15 hz15 hr15 => ?_)
    obtain ⟨hD15, hL15, hV15⟩ := hz15
    refine J.move rfl rfl ?_
    refine J.callRows2 17 7017 (by decide) rfl rfl (t := 3) (kd := .i64) fok63 rfl rfl (fun w hw => Rf.divide w _ _ _ (hw.rowCs (k := 15) rfl) _ _ _ (hw.rowCs (k := 9) rfl) (by assumption) (by omega) (by assumption) (by omega) (by first | assumption | omega)) (fun zs17 ys17 r17 q17 hz17 hr17 hq17 => ?_)
    obtain ⟨hD17, hL17, hV17, hE17, hM17, hW17⟩ := hz17
    refine J.move rfl rfl ?_
    refine J.extract rfl rfl rfl ?_
    refine J.extract rfl rfl rfl ?_
    refine J.assign rfl rfl ?_
    refine J.assign rfl rfl ?_
    refine J.end ?_
    refine X.then ?_
    refine T.seq ?_
    refine T.text [.l, .l, .l, .l, .l] rfl ?_
    refine J.move rfl rfl ?_
    refine J.loadN (k := .l) trivial 2 rfl rfl agg24 (wc x0) rfl rfl rfl ?_
    refine J.call0 (k := .l) trivial fok66 rfl rfl (fun w hw => Ri.negative w _) ?_
    refine J.call0 (k := .l) trivial fok65 rfl rfl (fun w hw => Ri.signed w _ _ _ (hw.rowCs (k := 7017) rfl) (sgn x0) (by assumption) (by omega)) ?_
    refine J.store 4 rfl rfl rfl rfl (wc (if sgn x0 then negN (vl ys17) else vl ys17)) rfl sz24 (by first | decide | exact Nat.le_refl _ | exact Nat.le_of_ble_eq_true rfl | (simp [rowN]; done) | (simp [rowN]; omega)) (by first | exact rowN_one _ _ | (simp; done) | (intro u hu; simp at hu; subst hu; rfl) | (intro u hu; simp at hu; rcases hu with rfl | rfl <;> rfl)) (by first | decide | exact Nat.zero_lt_succ _ | simp) trivial (wc (if sgn x0 then negN (vl ys17) else vl ys17)) rfl ?_
    refine J.end ?_
    refine X.then ?_
    refine T.ret ?_
    exact X.ret1 rfl (RV.agg 4 rfl rfl agg24 (wc (if sgn x0 then negN (vl ys17) else vl ys17)) (by rfl) (by rfl) rfl) (fun w' hw' => ⟨retW (by rw [hW17, hV15, hV9, smodN_nz hz]), hw'.sub (Sub.nil _)⟩)

theorem SLt (w : World) (x0 : Nat) (x1 : Nat) :
    Calls Tryz.prog 76 [W x0, W x1].toArray w fun e w' => e = .returned (.bool (decide (sltP x0 x1))) ∧ WS w [] [] w' := by
  refine calls_of_T [] 16 [] Tryz.func76 rfl Tryz.ntmps76 (by simp) (WS.refl _ _) ?_
  refine T.seq ?_
  refine T.text [.l, .l, .l] rfl ?_
  refine J.box 2 rfl rfl (wc x0) rfl rfl (fun g2 hg2 => ?_)
  refine J.box 3 rfl rfl (wc x1) rfl rfl (fun g3 hg3 => ?_)
  refine J.assign rfl rfl ?_
  refine J.end ?_
  refine X.then ?_
  refine T.seq ?_
  refine T.seq ?_
  refine T.draw [] [(0, .q), (1, .q), (2, .q), (3, .q), (4, .g)] (by kernel_rfl) (by kernel_rfl) ?_ (by repeat (first | exact Sub.nil _ | refine Sub.cons (by first | rfl | (rw [dgs_zero]; rfl) | (rw [List.drop_length]; rfl) | (simp; done) | (congr 2; omega) | (congr 3; omega)) ?_))
  refine J.loadN (k := .q) trivial 2 rfl rfl agg24 (wc x0) rfl rfl rfl ?_
  refine J.call0 (k := .q) trivial fok66 rfl rfl (fun w hw => Ri.negative w _) ?_
  refine J.loadN (k := .q) trivial 3 rfl rfl agg24 (wc x1) rfl rfl rfl ?_
  refine J.call0 (k := .q) trivial fok66 rfl rfl (fun w hw => Ri.negative w _) ?_
  refine J.neqB Tryz.underlying4 rfl rfl rfl (by exact neqB_dec _ _) ?_
  refine J.end ?_
  refine X.then ?_
  refine T.cond_dec rfl (fun h1 => ?_) (fun h1 => ?_)
  · skip
    refine T.seq ?_
    refine T.text [.l, .l, .l] rfl ?_
    refine J.loadN (k := .l) trivial 2 rfl rfl agg24 (wc x0) rfl rfl rfl ?_
    refine J.call0 (k := .l) trivial fok66 rfl rfl (fun w hw => Ri.negative w _) ?_
    refine J.assign rfl rfl ?_
    refine J.end ?_
    refine X.then ?_
    refine T.ret ?_
    refine X.then_ret ?_
    exact X.ret1 rfl (RV.tmp rfl) (fun w' hw' => ⟨by congr 2; exact decide_eq_decide.2 (by unfold sltP; rw [if_pos (by assumption)]), hw'.sub (Sub.nil _)⟩)
  · skip
    refine T.skip ?_
    refine X.then ?_
    refine T.seq ?_
    refine T.text [.l, .l, .l, .l, .l] rfl ?_
    refine J.loadN (k := .l) trivial 2 rfl rfl agg24 (wc x0) rfl rfl rfl ?_
    refine J.loadN (k := .l) trivial 3 rfl rfl agg24 (wc x1) rfl rfl rfl ?_
    refine J.call0 (k := .l) trivial fok103 rfl rfl (fun w hw => Ra.Cmp w _ _) ?_
    refine J.lss rfl rfl rfl rfl ?_
    refine J.assign rfl rfl ?_
    refine J.end ?_
    refine X.then ?_
    refine T.ret ?_
    exact X.ret1 rfl (RV.tmp rfl) (fun w' hw' => ⟨by congr 2; rw [cmpN_neg]; exact decide_eq_decide.2 (by unfold sltP; rw [if_neg (by assumption)]), hw'.sub (Sub.nil _)⟩)

theorem SGt (w : World) (x0 : Nat) (x1 : Nat) :
    Calls Tryz.prog 77 [W x0, W x1].toArray w fun e w' => e = .returned (.bool (decide (sltP x1 x0))) ∧ WS w [] [] w' := by
  refine calls_of_T [] 8 [] Tryz.func77 rfl Tryz.ntmps77 (by simp) (WS.refl _ _) ?_
  refine T.seq ?_
  refine T.text [.l, .l, .l] rfl ?_
  refine J.box 2 rfl rfl (wc x0) rfl rfl (fun g2 hg2 => ?_)
  refine J.box 3 rfl rfl (wc x1) rfl rfl (fun g3 hg3 => ?_)
  refine J.assign rfl rfl ?_
  refine J.end ?_
  refine X.then ?_
  refine T.seq ?_
  refine T.text [.l, .l, .l, .l] rfl ?_
  refine J.loadN (k := .l) trivial 3 rfl rfl agg24 (wc x1) rfl rfl rfl ?_
  refine J.loadN (k := .l) trivial 2 rfl rfl agg24 (wc x0) rfl rfl rfl ?_
  refine J.call0 (k := .l) trivial fok76 rfl rfl (fun w hw => Rj.SLt w _ _) ?_
  refine J.assign rfl rfl ?_
  refine J.end ?_
  refine X.then ?_
  refine T.ret ?_
  exact X.ret1 rfl (RV.tmp rfl) (fun w' hw' => ⟨rfl, hw'.sub (Sub.nil _)⟩)
end Go.Proofs.YtegociefcfcihaaGreatDoor.Rj
