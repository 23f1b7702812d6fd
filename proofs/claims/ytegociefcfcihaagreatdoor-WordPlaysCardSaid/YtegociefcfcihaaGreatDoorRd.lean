/-
  Walks, printed by gen.py: what each function hands back, said of numbers.
  Conditions: those that each theorem bears.
-/
import Derived.Test.YtegociefcfcihaaGreatDoorChecked
import Derived.Test.YtegociefcfcihaaGreatDoorFn
import Derived.Test.YtegociefcfcihaaGreatDoorPy
import Derived.Test.YtegociefcfcihaaGreatDoorRa
import Derived.Test.YtegociefcfcihaaGreatDoorRc
set_option linter.unusedVariables false
set_option maxRecDepth 20000
namespace Go.Proofs.YtegociefcfcihaaGreatDoor.Rd
open Go Go.Fw

theorem zero256 : ZeroT Tryz.prog 60 (.agg (rowN .i64 (List.replicate 256 0)).toArray) := (by unfold ZeroT; kernel_rfl)
theorem sz60 : SizeT Tryz.prog 60 256 := (by unfold SizeT; kernel_rfl)
theorem zero24 : ZeroT Tryz.prog 24 (.agg ([.int .u64 0, .int .u64 0, .int .u64 0, .int .u64 0]).toArray) := (by unfold ZeroT; kernel_rfl)
theorem agg24 : AggT Tryz.prog 24 4 := ⟨⟨_, Tryz.underlying24, rfl⟩, by kernel_rfl⟩
theorem fok58 : FnOk Tryz.prog 58 := FnOk.mk' Tryz.func58 (by kernel_rfl) rfl
theorem fok57 : FnOk Tryz.prog 57 := FnOk.mk' Tryz.func57 (by kernel_rfl) rfl
theorem fok56 : FnOk Tryz.prog 56 := FnOk.mk' Tryz.func56 (by kernel_rfl) rfl
theorem sz24 : SizeT Tryz.prog 24 4 := (by unfold SizeT; kernel_rfl)
theorem fok61 : FnOk Tryz.prog 61 := FnOk.mk' Tryz.func61 (by kernel_rfl) rfl
theorem fok60 : FnOk Tryz.prog 60 := FnOk.mk' Tryz.func60 (by kernel_rfl) rfl
theorem fok59 : FnOk Tryz.prog 59 := FnOk.mk' Tryz.func59 (by kernel_rfl) rfl

theorem Add (w : World) (x0 : Nat) (x1 : Nat) :
    Calls Tryz.prog 9 [W x0, W x1].toArray w fun e w' => e = .returned (W (x0 + x1)) ∧ WS w [] [] w' := by
  refine calls_of_T [] 11 [] Tryz.func9 rfl Tryz.ntmps9 (by simp) (WS.refl _ _) ?_
  refine T.seq ?_
  refine T.text [.l, .l, .l] rfl ?_
  refine J.box 2 rfl rfl (wc x0) rfl rfl (fun g2 hg2 => ?_)
  refine J.box 3 rfl rfl (wc x1) rfl rfl (fun g3 hg3 => ?_)
  refine J.alloc 4 rfl zero24 [.int .u64 0, .int .u64 0, .int .u64 0, .int .u64 0] rfl rfl (fun g4 hg4 => ?_)
  refine J.end ?_
  refine X.then ?_
  refine T.seq ?_
  refine T.draw [(3, ⟨some g3, 24, (wc x1)⟩)] [(0, .q), (2, .s), (1, .l), (3, .l), (4, .l), (5, .q), (6, .l)] (by kernel_rfl) (by kernel_rfl) ?_ (by repeat (first | exact Sub.nil _ | refine Sub.cons (by first | rfl | (rw [dgs_zero]; rfl) | (rw [List.drop_length]; rfl) | (simp; done) | (congr 2; omega) | (congr 3; omega)) ?_))
  refine J.loadN (k := .q) trivial 2 rfl rfl agg24 (wc x0) rfl rfl rfl ?_
  refine J.loadNs 3 rfl rfl agg24 (wc x1) rfl rfl rfl ?_
  refine J.callRow 6 rfl (t := 3) (kd := .i64) fok58 rfl rfl (fun w hw => Ra.of w _) (fun zs6 r6 hz6 hr6 => ?_)
  obtain ⟨hD6, hL6, hV6, hG6⟩ := of_facts hz6
  refine J.callRow 8 rfl (t := 3) (kd := .i64) fok58 rfl rfl (fun w hw => Ra.of w _) (fun zs8 r8 hz8 hr8 => ?_)
  obtain ⟨hD8, hL8, hV8, hG8⟩ := of_facts hz8
  refine J.callRow 9 rfl (t := 3) (kd := .i64) fok57 rfl rfl (fun w hw => Ra.plus w _ _ _ (hw.rowCs (k := 6) rfl) _ _ _ (hw.rowCs (k := 8) rfl) (by assumption) (by omega) (by assumption) (by omega)) (fun zs9 r9 hz9 hr9 => ?_)
  obtain ⟨hD9, hL9, hV9⟩ := hz9
  refine J.call0 (k := .q) trivial fok56 rfl rfl (fun w hw => Ra.word w _ _ _ (hw.rowCs (k := 9) rfl) (by assumption) (by omega)) ?_
  refine J.store 4 rfl rfl rfl rfl _ rfl sz24 (by first | decide | exact Nat.le_refl _ | exact Nat.le_of_ble_eq_true rfl | (simp [rowN]; done) | (simp [rowN]; omega)) (by first | exact rowN_one _ _ | (simp; done) | (intro u hu; simp at hu; subst hu; rfl) | (intro u hu; simp at hu; rcases hu with rfl | rfl <;> rfl)) (by first | decide | exact Nat.zero_lt_succ _ | simp) trivial _ rfl ?_
  refine J.end ?_
  refine X.then ?_
  refine T.ret ?_
  exact X.ret1 rfl (RV.agg 4 rfl rfl agg24 _ (by rfl) (by rfl) rfl) (fun w' hw' => ⟨retW (by rw [hV9, hV6, hV8]; omega), hw'.sub (Sub.nil _)⟩)

theorem Sub (w : World) (x0 : Nat) (x1 : Nat) :
    Calls Tryz.prog 11 [W x0, W x1].toArray w fun e w' => e = .returned (W (dif x0 x1)) ∧ WS w [] [] w' := by
  refine calls_of_T [] 13 [] Tryz.func11 rfl Tryz.ntmps11 (by simp) (WS.refl _ _) ?_
  refine T.seq ?_
  refine T.text [.l, .l, .l] rfl ?_
  refine J.box 2 rfl rfl (wc x0) rfl rfl (fun g2 hg2 => ?_)
  refine J.box 3 rfl rfl (wc x1) rfl rfl (fun g3 hg3 => ?_)
  refine J.alloc 4 rfl zero24 [.int .u64 0, .int .u64 0, .int .u64 0, .int .u64 0] rfl rfl (fun g4 hg4 => ?_)
  refine J.end ?_
  refine X.then ?_
  refine T.seq ?_
  refine T.draw [(3, ⟨some g3, 24, (wc x1)⟩)] [(0, .q), (4, .s), (1, .l), (2, .l), (3, .l), (5, .l), (6, .l), (7, .q), (8, .l)] (by kernel_rfl) (by kernel_rfl) ?_ (by repeat (first | exact Sub.nil _ | refine Sub.cons (by first | rfl | (rw [dgs_zero]; rfl) | (rw [List.drop_length]; rfl) | (simp; done) | (congr 2; omega) | (congr 3; omega)) ?_))
  refine J.loadN (k := .q) trivial 2 rfl rfl agg24 (wc x0) rfl rfl rfl ?_
  refine J.loadNs 3 rfl rfl agg24 (wc x1) rfl rfl rfl ?_
  refine J.callRow 6 rfl (t := 3) (kd := .i64) fok58 rfl rfl (fun w hw => Ra.of w _) (fun zs6 r6 hz6 hr6 => ?_)
  obtain ⟨hD6, hL6, hV6, hG6⟩ := of_facts hz6
  refine J.callRow 7 rfl (t := 3) (kd := .i64) fok61 rfl rfl (fun w hw => Ra.full w) (fun zs7 r7 hz7 hr7 => ?_)
  obtain ⟨hD7, hL7, hV7⟩ := full_facts hz7
  refine J.callRow 8 rfl (t := 3) (kd := .i64) fok57 rfl rfl (fun w hw => Ra.plus w _ _ _ (hw.rowCs (k := 6) rfl) _ _ _ (hw.rowCs (k := 7) rfl) (by assumption) (by omega) (by assumption) (by omega)) (fun zs8 r8 hz8 hr8 => ?_)
  obtain ⟨hD8, hL8, hV8⟩ := hz8
  refine J.callRow 10 rfl (t := 3) (kd := .i64) fok58 rfl rfl (fun w hw => Ra.of w _) (fun zs10 r10 hz10 hr10 => ?_)
  obtain ⟨hD10, hL10, hV10, hG10⟩ := of_facts hz10
  refine J.callRow 11 rfl (t := 3) (kd := .i64) fok60 rfl rfl (fun w hw => Rc.minus w _ _ _ (hw.rowCs (k := 8) rfl) _ _ _ (hw.rowCs (k := 10) rfl) (by assumption) (by omega) (by assumption) (by omega) (by first | assumption | omega)) (fun zs11 r11 hz11 hr11 => ?_)
  obtain ⟨hD11, hL11, hV11⟩ := hz11
  refine J.call0 (k := .q) trivial fok56 rfl rfl (fun w hw => Ra.word w _ _ _ (hw.rowCs (k := 11) rfl) (by assumption) (by omega)) ?_
  refine J.store 4 rfl rfl rfl rfl _ rfl sz24 (by first | decide | exact Nat.le_refl _ | exact Nat.le_of_ble_eq_true rfl | (simp [rowN]; done) | (simp [rowN]; omega)) (by first | exact rowN_one _ _ | (simp; done) | (intro u hu; simp at hu; subst hu; rfl) | (intro u hu; simp at hu; rcases hu with rfl | rfl <;> rfl)) (by first | decide | exact Nat.zero_lt_succ _ | simp) trivial _ rfl ?_
  refine J.end ?_
  refine X.then ?_
  refine T.ret ?_
  exact X.ret1 rfl (RV.agg 4 rfl rfl agg24 _ (by rfl) (by rfl) rfl) (fun w' hw' => ⟨retW (by rw [hV11, hV8, hV6, hV7, hV10]; unfold dif; omega), hw'.sub (Sub.nil _)⟩)

theorem Mul (w : World) (x0 : Nat) (x1 : Nat) :
    Calls Tryz.prog 10 [W x0, W x1].toArray w fun e w' => e = .returned (W (x0 * x1)) ∧ WS w [] [] w' := by
  refine calls_of_T [] 11 [] Tryz.func10 rfl Tryz.ntmps10 (by simp) (WS.refl _ _) ?_
  refine T.seq ?_
  refine T.text [.l, .l, .l] rfl ?_
  refine J.box 2 rfl rfl (wc x0) rfl rfl (fun g2 hg2 => ?_)
  refine J.box 3 rfl rfl (wc x1) rfl rfl (fun g3 hg3 => ?_)
  refine J.alloc 4 rfl zero24 [.int .u64 0, .int .u64 0, .int .u64 0, .int .u64 0] rfl rfl (fun g4 hg4 => ?_)
  refine J.end ?_
  refine X.then ?_
  refine T.seq ?_
  refine T.draw [(3, ⟨some g3, 24, (wc x1)⟩)] [(0, .q), (2, .s), (1, .l), (3, .l), (4, .l), (5, .q), (6, .l)] (by kernel_rfl) (by kernel_rfl) ?_ (by repeat (first | exact Sub.nil _ | refine Sub.cons (by first | rfl | (rw [dgs_zero]; rfl) | (rw [List.drop_length]; rfl) | (simp; done) | (congr 2; omega) | (congr 3; omega)) ?_))
  refine J.loadN (k := .q) trivial 2 rfl rfl agg24 (wc x0) rfl rfl rfl ?_
  refine J.loadNs 3 rfl rfl agg24 (wc x1) rfl rfl rfl ?_
  refine J.callRow 6 rfl (t := 3) (kd := .i64) fok58 rfl rfl (fun w hw => Ra.of w _) (fun zs6 r6 hz6 hr6 => ?_)
  obtain ⟨hD6, hL6, hV6, hG6⟩ := of_facts hz6
  refine J.callRow 8 rfl (t := 3) (kd := .i64) fok58 rfl rfl (fun w hw => Ra.of w _) (fun zs8 r8 hz8 hr8 => ?_)
  obtain ⟨hD8, hL8, hV8, hG8⟩ := of_facts hz8
  refine J.callRow 9 rfl (t := 3) (kd := .i64) fok59 rfl rfl (fun w hw => Rc.times w _ _ _ (hw.rowCs (k := 6) rfl) _ _ _ (hw.rowCs (k := 8) rfl) (by assumption) (by omega) (by assumption) (by omega)) (fun zs9 r9 hz9 hr9 => ?_)
  obtain ⟨hD9, hL9, hV9⟩ := hz9
  refine J.call0 (k := .q) trivial fok56 rfl rfl (fun w hw => Ra.word w _ _ _ (hw.rowCs (k := 9) rfl) (by assumption) (by omega)) ?_
  refine J.store 4 rfl rfl rfl rfl _ rfl sz24 (by first | decide | exact Nat.le_refl _ | exact Nat.le_of_ble_eq_true rfl | (simp [rowN]; done) | (simp [rowN]; omega)) (by first | exact rowN_one _ _ | (simp; done) | (intro u hu; simp at hu; subst hu; rfl) | (intro u hu; simp at hu; rcases hu with rfl | rfl <;> rfl)) (by first | decide | exact Nat.zero_lt_succ _ | simp) trivial _ rfl ?_
  refine J.end ?_
  refine X.then ?_
  refine T.ret ?_
  exact X.ret1 rfl (RV.agg 4 rfl rfl agg24 _ (by rfl) (by rfl) rfl) (fun w' hw' => ⟨retW (by rw [hV9, hV6, hV8, ← Nat.mul_mod]), hw'.sub (Sub.nil _)⟩)
end Go.Proofs.YtegociefcfcihaaGreatDoor.Rd
