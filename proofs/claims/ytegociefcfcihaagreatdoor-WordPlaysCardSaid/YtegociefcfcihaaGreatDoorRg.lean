/-
  Walks, printed by gen.py: what each function hands back, said of numbers.
  Conditions: those that each theorem bears.
-/
import Derived.Test.YtegociefcfcihaaGreatDoorChecked
import Derived.Test.YtegociefcfcihaaGreatDoorFn
import Derived.Test.YtegociefcfcihaaGreatDoorFs
import Derived.Test.YtegociefcfcihaaGreatDoorPy
import Derived.Test.YtegociefcfcihaaGreatDoorRa
import Derived.Test.YtegociefcfcihaaGreatDoorRc
import Derived.Test.YtegociefcfcihaaGreatDoorRe
import Derived.Test.YtegociefcfcihaaGreatDoorRf
set_option linter.unusedVariables false
set_option maxRecDepth 20000
namespace Go.Proofs.YtegociefcfcihaaGreatDoor.Rg
open Go Go.Fw

theorem zero256 : ZeroT Tryz.prog 60 (.agg (rowN .i64 (List.replicate 256 0)).toArray) := (by unfold ZeroT; kernel_rfl)
theorem sz60 : SizeT Tryz.prog 60 256 := (by unfold SizeT; kernel_rfl)
theorem zero24 : ZeroT Tryz.prog 24 (.agg ([.int .u64 0, .int .u64 0, .int .u64 0, .int .u64 0]).toArray) := (by unfold ZeroT; kernel_rfl)
theorem agg24 : AggT Tryz.prog 24 4 := ⟨⟨_, Tryz.underlying24, rfl⟩, by kernel_rfl⟩
theorem fok58 : FnOk Tryz.prog 58 := FnOk.mk' Tryz.func58 (by kernel_rfl) rfl
theorem fok62 : FnOk Tryz.prog 62 := FnOk.mk' Tryz.func62 (by kernel_rfl) rfl
theorem sz24 : SizeT Tryz.prog 24 4 := (by unfold SizeT; kernel_rfl)
theorem fok63 : FnOk Tryz.prog 63 := FnOk.mk' Tryz.func63 (by kernel_rfl) rfl
theorem fok56 : FnOk Tryz.prog 56 := FnOk.mk' Tryz.func56 (by kernel_rfl) rfl
theorem fok57 : FnOk Tryz.prog 57 := FnOk.mk' Tryz.func57 (by kernel_rfl) rfl
theorem fok59 : FnOk Tryz.prog 59 := FnOk.mk' Tryz.func59 (by kernel_rfl) rfl

theorem Div (w : World) (x0 : Nat) (x1 : Nat) :
    Calls Tryz.prog 12 [W x0, W x1].toArray w fun e w' => e = .returned (W (divN x0 x1)) ∧ WS w [] [] w' := by
  refine calls_of_T [] 22 [] Tryz.func12 rfl Tryz.ntmps12 (by simp) (WS.refl _ _) ?_
  refine T.seq ?_
  refine T.text [.l, .l, .l] rfl ?_
  refine J.box 2 rfl rfl (wc x0) rfl rfl (fun g2 hg2 => ?_)
  refine J.box 3 rfl rfl (wc x1) rfl rfl (fun g3 hg3 => ?_)
  refine J.alloc 4 rfl zero24 [.int .u64 0, .int .u64 0, .int .u64 0, .int .u64 0] rfl rfl (fun g4 hg4 => ?_)
  refine J.end ?_
  refine X.then ?_
  refine T.seq ?_
  refine T.text [.l, .l, .l] rfl ?_
  refine J.loadN (k := .l) trivial 3 rfl rfl agg24 (wc x1) rfl rfl rfl ?_
  refine J.callRow 9 rfl (t := 3) (kd := .i64) fok58 rfl rfl (fun w hw => Ra.of w _) (fun zs9 r9 hz9 hr9 => ?_)
  obtain ⟨hD9, hL9, hV9, hG9⟩ := of_facts hz9
  refine J.assign rfl rfl ?_
  refine J.end ?_
  refine X.then ?_
  refine T.seq ?_
  refine T.seq ?_
  refine T.text [.l, .l] rfl ?_
  refine J.move rfl rfl ?_
  refine J.call0 (k := .l) trivial fok62 rfl rfl (fun w hw => Ra.none_ w _ _ _ (hw.rowCs (k := 9) rfl) (by first | assumption | omega)) ?_
  refine J.end ?_
  refine X.then ?_
  refine T.cond_dec rfl (fun h1 => ?_) (fun h1 => ?_)
  · have hz : x1 % 2 ^ 256 = 0 := by omega
    refine T.seq ?_
    refine T.text [.l, .l] rfl ?_
    refine J.build rfl rfl (W 0) (fun w => by kernel_rfl) ?_
    refine J.store 4 rfl rfl rfl rfl (wc 0) rfl sz24 (by first | decide | exact Nat.le_refl _ | exact Nat.le_of_ble_eq_true rfl | (simp [rowN]; done) | (simp [rowN]; omega)) (by first | exact rowN_one _ _ | (simp; done) | (intro u hu; simp at hu; subst hu; rfl) | (intro u hu; simp at hu; rcases hu with rfl | rfl <;> rfl)) (by first | decide | exact Nat.zero_lt_succ _ | simp) trivial (wc 0) rfl ?_
    refine J.end ?_
    refine X.then ?_
    refine T.ret ?_
    refine X.then_ret ?_
    exact X.ret1 rfl (RV.agg 4 rfl rfl agg24 (wc 0) (by rfl) (by rfl) rfl) (fun w' hw' => ⟨retW (by unfold divN; rw [if_pos hz]), hw'.sub (Sub.nil _)⟩)
  · have hz : ¬ x1 % 2 ^ 256 = 0 := by omega
    have hp9 : 0 < vl zs9 := by omega
    refine T.skip ?_
    refine X.then ?_
    refine T.seq ?_
    refine T.text [.l, .l, .l, .l, .l, .l, .l, .l, .l] rfl ?_
    refine J.loadN (k := .l) trivial 2 rfl rfl agg24 (wc x0) rfl rfl rfl ?_
    refine J.callRow 15 rfl (t := 3) (kd := .i64) fok58 rfl rfl (fun w hw => Ra.of w _) (fun zs15 r15 hz15 hr15 => ?_)
    obtain ⟨hD15, hL15, hV15, hG15⟩ := of_facts hz15
    refine J.move rfl rfl ?_
    refine J.callRows2 17 7017 (by decide) rfl rfl (t := 3) (kd := .i64) fok63 rfl rfl (fun w hw => Rf.divide w _ _ _ (hw.rowCs (k := 15) rfl) _ _ _ (hw.rowCs (k := 9) rfl) (by assumption) (by omega) (by assumption) (by omega) (by first | assumption | omega)) (fun zs17 ys17 r17 q17 hz17 hr17 hq17 => ?_)
    obtain ⟨hD17, hL17, hV17, hE17, hM17, hW17⟩ := hz17
    refine J.move rfl rfl ?_
    refine J.extract rfl rfl rfl ?_
    refine J.extract rfl rfl rfl ?_
    refine J.assign rfl rfl ?_
    refine J.assign rfl rfl ?_
    refine J.end ?_
    refine X.then ?_
    refine T.seq ?_
    refine T.text [.l, .l, .l] rfl ?_
    refine J.move rfl rfl ?_
    refine J.call0 (k := .l) trivial fok56 rfl rfl (fun w hw => Ra.word w _ _ _ (hw.rowCs (k := 17) rfl) (by assumption) (by omega)) ?_
    refine J.store 4 rfl rfl rfl rfl _ rfl sz24 (by first | decide | exact Nat.le_refl _ | exact Nat.le_of_ble_eq_true rfl | (simp [rowN]; done) | (simp [rowN]; omega)) (by first | exact rowN_one _ _ | (simp; done) | (intro u hu; simp at hu; subst hu; rfl) | (intro u hu; simp at hu; rcases hu with rfl | rfl <;> rfl)) (by first | decide | exact Nat.zero_lt_succ _ | simp) trivial _ rfl ?_
    refine J.end ?_
    refine X.then ?_
    refine T.ret ?_
    exact X.ret1 rfl (RV.agg 4 rfl rfl agg24 _ (by rfl) (by rfl) rfl) (fun w' hw' => ⟨retW (by unfold divN; rw [if_neg hz, hV17, hV15, hV9]), hw'.sub (Sub.nil _)⟩)

theorem Mod (w : World) (x0 : Nat) (x1 : Nat) :
    Calls Tryz.prog 14 [W x0, W x1].toArray w fun e w' => e = .returned (W (modN x0 x1)) ∧ WS w [] [] w' := by
  refine calls_of_T [] 22 [] Tryz.func14 rfl Tryz.ntmps14 (by simp) (WS.refl _ _) ?_
  refine T.seq ?_
  refine T.text [.l, .l, .l] rfl ?_
  refine J.box 2 rfl rfl (wc x0) rfl rfl (fun g2 hg2 => ?_)
  refine J.box 3 rfl rfl (wc x1) rfl rfl (fun g3 hg3 => ?_)
  refine J.alloc 4 rfl zero24 [.int .u64 0, .int .u64 0, .int .u64 0, .int .u64 0] rfl rfl (fun g4 hg4 => ?_)
  refine J.end ?_
  refine X.then ?_
  refine T.seq ?_
  refine T.text [.l, .l, .l] rfl ?_
  refine J.loadN (k := .l) trivial 3 rfl rfl agg24 (wc x1) rfl rfl rfl ?_
  refine J.callRow 9 rfl (t := 3) (kd := .i64) fok58 rfl rfl (fun w hw => Ra.of w _) (fun zs9 r9 hz9 hr9 => ?_)
  obtain ⟨hD9, hL9, hV9, hG9⟩ := of_facts hz9
  refine J.assign rfl rfl ?_
  refine J.end ?_
  refine X.then ?_
  refine T.seq ?_
  refine T.seq ?_
  refine T.text [.l, .l] rfl ?_
  refine J.move rfl rfl ?_
  refine J.call0 (k := .l) trivial fok62 rfl rfl (fun w hw => Ra.none_ w _ _ _ (hw.rowCs (k := 9) rfl) (by first | assumption | omega)) ?_
  refine J.end ?_
  refine X.then ?_
  refine T.cond_dec rfl (fun h1 => ?_) (fun h1 => ?_)
  · have hz : x1 % 2 ^ 256 = 0 := by omega
    refine T.seq ?_
    refine T.text [.l, .l] rfl ?_
    refine J.build rfl rfl (W 0) (fun w => by kernel_rfl) ?_
    refine J.store 4 rfl rfl rfl rfl (wc 0) rfl sz24 (by first | decide | exact Nat.le_refl _ | exact Nat.le_of_ble_eq_true rfl | (simp [rowN]; done) | (simp [rowN]; omega)) (by first | exact rowN_one _ _ | (simp; done) | (intro u hu; simp at hu; subst hu; rfl) | (intro u hu; simp at hu; rcases hu with rfl | rfl <;> rfl)) (by first | decide | exact Nat.zero_lt_succ _ | simp) trivial (wc 0) rfl ?_
    refine J.end ?_
    refine X.then ?_
    refine T.ret ?_
    refine X.then_ret ?_
    exact X.ret1 rfl (RV.agg 4 rfl rfl agg24 (wc 0) (by rfl) (by rfl) rfl) (fun w' hw' => ⟨retW (by unfold modN; rw [if_pos hz]), hw'.sub (Sub.nil _)⟩)
  · have hz : ¬ x1 % 2 ^ 256 = 0 := by omega
    have hp9 : 0 < vl zs9 := by omega
    refine T.skip ?_
    refine X.then ?_
    refine T.seq ?_
    refine T.text [.l, .l, .l, .l, .l, .l, .l, .l, .l] rfl ?_
    refine J.loadN (k := .l) trivial 2 rfl rfl agg24 (wc x0) rfl rfl rfl ?_
    refine J.callRow 15 rfl (t := 3) (kd := .i64) fok58 rfl rfl (fun w hw => Ra.of w _) (fun zs15 r15 hz15 hr15 => ?_)
    obtain ⟨hD15, hL15, hV15, hG15⟩ := of_facts hz15
    refine J.move rfl rfl ?_
    refine J.callRows2 17 7017 (by decide) rfl rfl (t := 3) (kd := .i64) fok63 rfl rfl (fun w hw => Rf.divide w _ _ _ (hw.rowCs (k := 15) rfl) _ _ _ (hw.rowCs (k := 9) rfl) (by assumption) (by omega) (by assumption) (by omega) (by first | assumption | omega)) (fun zs17 ys17 r17 q17 hz17 hr17 hq17 => ?_)
    obtain ⟨hD17, hL17, hV17, hE17, hM17, hW17⟩ := hz17
    refine J.move rfl rfl ?_
    refine J.extract rfl rfl rfl ?_
    refine J.extract rfl rfl rfl ?_
    refine J.assign rfl rfl ?_
    refine J.assign rfl rfl ?_
    refine J.end ?_
    refine X.then ?_
    refine T.seq ?_
    refine T.text [.l, .l, .l] rfl ?_
    refine J.move rfl rfl ?_
    refine J.call0 (k := .l) trivial fok56 rfl rfl (fun w hw => Ra.word w _ _ _ (hw.rowCs (k := 7017) rfl) (by assumption) (by omega)) ?_
    refine J.store 4 rfl rfl rfl rfl _ rfl sz24 (by first | decide | exact Nat.le_refl _ | exact Nat.le_of_ble_eq_true rfl | (simp [rowN]; done) | (simp [rowN]; omega)) (by first | exact rowN_one _ _ | (simp; done) | (intro u hu; simp at hu; subst hu; rfl) | (intro u hu; simp at hu; rcases hu with rfl | rfl <;> rfl)) (by first | decide | exact Nat.zero_lt_succ _ | simp) trivial _ rfl ?_
    refine J.end ?_
    refine X.then ?_
    refine T.ret ?_
    exact X.ret1 rfl (RV.agg 4 rfl rfl agg24 _ (by rfl) (by rfl) rfl) (fun w' hw' => ⟨retW (by unfold modN; rw [if_neg hz, hW17, hV15, hV9]), hw'.sub (Sub.nil _)⟩)

theorem AddMod (w : World) (x0 : Nat) (x1 : Nat) (x2 : Nat) :
    Calls Tryz.prog 16 [W x0, W x1, W x2].toArray w fun e w' => e = .returned (W (addmN x0 x1 x2)) ∧ WS w [] [] w' := by
  refine calls_of_T [] 27 [] Tryz.func16 rfl Tryz.ntmps16 (by simp) (WS.refl _ _) ?_
  refine T.seq ?_
  refine T.text [.l, .l, .l, .l] rfl ?_
  refine J.box 3 rfl rfl (wc x0) rfl rfl (fun g3 hg3 => ?_)
  refine J.box 4 rfl rfl (wc x1) rfl rfl (fun g4 hg4 => ?_)
  refine J.box 5 rfl rfl (wc x2) rfl rfl (fun g5 hg5 => ?_)
  refine J.alloc 6 rfl zero24 [.int .u64 0, .int .u64 0, .int .u64 0, .int .u64 0] rfl rfl (fun g6 hg6 => ?_)
  refine J.end ?_
  refine X.then ?_
  refine T.seq ?_
  refine T.text [.l, .l, .l] rfl ?_
  refine J.loadN (k := .l) trivial 5 rfl rfl agg24 (wc x2) rfl rfl rfl ?_
  refine J.callRow 11 rfl (t := 3) (kd := .i64) fok58 rfl rfl (fun w hw => Ra.of w _) (fun zs11 r11 hz11 hr11 => ?_)
  obtain ⟨hD11, hL11, hV11, hG11⟩ := of_facts hz11
  refine J.assign rfl rfl ?_
  refine J.end ?_
  refine X.then ?_
  refine T.seq ?_
  refine T.seq ?_
  refine T.text [.l, .l] rfl ?_
  refine J.move rfl rfl ?_
  refine J.call0 (k := .l) trivial fok62 rfl rfl (fun w hw => Ra.none_ w _ _ _ (hw.rowCs (k := 11) rfl) (by first | assumption | omega)) ?_
  refine J.end ?_
  refine X.then ?_
  refine T.cond_dec rfl (fun h1 => ?_) (fun h1 => ?_)
  · have hz : x2 % 2 ^ 256 = 0 := by omega
    refine T.seq ?_
    refine T.text [.l, .l] rfl ?_
    refine J.build rfl rfl (W 0) (fun w => by kernel_rfl) ?_
    refine J.store 6 rfl rfl rfl rfl (wc 0) rfl sz24 (by first | decide | exact Nat.le_refl _ | exact Nat.le_of_ble_eq_true rfl | (simp [rowN]; done) | (simp [rowN]; omega)) (by first | exact rowN_one _ _ | (simp; done) | (intro u hu; simp at hu; subst hu; rfl) | (intro u hu; simp at hu; rcases hu with rfl | rfl <;> rfl)) (by first | decide | exact Nat.zero_lt_succ _ | simp) trivial (wc 0) rfl ?_
    refine J.end ?_
    refine X.then ?_
    refine T.ret ?_
    refine X.then_ret ?_
    exact X.ret1 rfl (RV.agg 6 rfl rfl agg24 (wc 0) (by rfl) (by rfl) rfl) (fun w' hw' => ⟨retW (by unfold addmN; rw [if_pos hz]), hw'.sub (Sub.nil _)⟩)
  · have hz : ¬ x2 % 2 ^ 256 = 0 := by omega
    have hp11 : 0 < vl zs11 := by omega
    refine T.skip ?_
    refine X.then ?_
    refine T.seq ?_
    refine T.draw [(4, ⟨some g4, 24, (wc x1)⟩)] [(0, .q), (2, .s), (5, .g), (1, .l), (3, .l), (4, .l), (6, .l), (7, .g), (8, .g), (9, .g), (10, .g), (11, .g)] (by kernel_rfl) (by kernel_rfl) ?_ (by repeat (first | exact Sub.nil _ | refine Sub.cons (by first | rfl | (rw [dgs_zero]; rfl) | (rw [List.drop_length]; rfl) | (simp; done) | (congr 2; omega) | (congr 3; omega)) ?_))
    refine J.loadN (k := .q) trivial 3 rfl rfl agg24 (wc x0) rfl rfl rfl ?_
    refine J.loadNs 4 rfl rfl agg24 (wc x1) rfl rfl rfl ?_
    refine J.move rfl rfl ?_
    refine J.callRow 17 rfl (t := 3) (kd := .i64) fok58 rfl rfl (fun w hw => Ra.of w _) (fun zs17 r17 hz17 hr17 => ?_)
    obtain ⟨hD17, hL17, hV17, hG17⟩ := of_facts hz17
    refine J.callRow 19 rfl (t := 3) (kd := .i64) fok58 rfl rfl (fun w hw => Ra.of w _) (fun zs19 r19 hz19 hr19 => ?_)
    obtain ⟨hD19, hL19, hV19, hG19⟩ := of_facts hz19
    refine J.callRow 20 rfl (t := 3) (kd := .i64) fok57 rfl rfl (fun w hw => Ra.plus w _ _ _ (hw.rowCs (k := 17) rfl) _ _ _ (hw.rowCs (k := 19) rfl) (by assumption) (by omega) (by assumption) (by omega)) (fun zs20 r20 hz20 hr20 => ?_)
    obtain ⟨hD20, hL20, hV20⟩ := hz20
    refine J.callRows2 22 7022 (by decide) rfl rfl (t := 3) (kd := .i64) fok63 rfl rfl (fun w hw => Rf.divide w _ _ _ (hw.rowCs (k := 20) rfl) _ _ _ (hw.rowCs (k := 11) rfl) (by assumption) (by omega) (by assumption) (by omega) (by first | assumption | omega)) (fun zs22 ys22 r22 q22 hz22 hr22 hq22 => ?_)
    obtain ⟨hD22, hL22, hV22, hE22, hM22, hW22⟩ := hz22
    refine J.move rfl rfl ?_
    refine J.extract rfl rfl rfl ?_
    refine J.extract rfl rfl rfl ?_
    refine J.assign rfl rfl ?_
    refine J.assign rfl rfl ?_
    refine J.end ?_
    refine X.then ?_
    refine T.seq ?_
    refine T.text [.l, .l, .l] rfl ?_
    refine J.move rfl rfl ?_
    refine J.call0 (k := .l) trivial fok56 rfl rfl (fun w hw => Ra.word w _ _ _ (hw.rowCs (k := 7022) rfl) (by assumption) (by omega)) ?_
    refine J.store 6 rfl rfl rfl rfl _ rfl sz24 (by first | decide | exact Nat.le_refl _ | exact Nat.le_of_ble_eq_true rfl | (simp [rowN]; done) | (simp [rowN]; omega)) (by first | exact rowN_one _ _ | (simp; done) | (intro u hu; simp at hu; subst hu; rfl) | (intro u hu; simp at hu; rcases hu with rfl | rfl <;> rfl)) (by first | decide | exact Nat.zero_lt_succ _ | simp) trivial _ rfl ?_
    refine J.end ?_
    refine X.then ?_
    refine T.ret ?_
    exact X.ret1 rfl (RV.agg 6 rfl rfl agg24 _ (by rfl) (by rfl) rfl) (fun w' hw' => ⟨retW (by unfold addmN; rw [if_neg hz, hW22, hV20, hV17, hV19, hV11]), hw'.sub (Sub.nil _)⟩)

theorem MulMod (w : World) (x0 : Nat) (x1 : Nat) (x2 : Nat) :
    Calls Tryz.prog 17 [W x0, W x1, W x2].toArray w fun e w' => e = .returned (W (mulmN x0 x1 x2)) ∧ WS w [] [] w' := by
  refine calls_of_T [] 27 [] Tryz.func17 rfl Tryz.ntmps17 (by simp) (WS.refl _ _) ?_
  refine T.seq ?_
  refine T.text [.l, .l, .l, .l] rfl ?_
  refine J.box 3 rfl rfl (wc x0) rfl rfl (fun g3 hg3 => ?_)
  refine J.box 4 rfl rfl (wc x1) rfl rfl (fun g4 hg4 => ?_)
  refine J.box 5 rfl rfl (wc x2) rfl rfl (fun g5 hg5 => ?_)
  refine J.alloc 6 rfl zero24 [.int .u64 0, .int .u64 0, .int .u64 0, .int .u64 0] rfl rfl (fun g6 hg6 => ?_)
  refine J.end ?_
  refine X.then ?_
  refine T.seq ?_
  refine T.text [.l, .l, .l] rfl ?_
  refine J.loadN (k := .l) trivial 5 rfl rfl agg24 (wc x2) rfl rfl rfl ?_
  refine J.callRow 11 rfl (t := 3) (kd := .i64) fok58 rfl rfl (fun w hw => Ra.of w _) (fun zs11 r11 hz11 hr11 => ?_)
  obtain ⟨hD11, hL11, hV11, hG11⟩ := of_facts hz11
  refine J.assign rfl rfl ?_
  refine J.end ?_
  refine X.then ?_
  refine T.seq ?_
  refine T.seq ?_
  refine T.text [.l, .l] rfl ?_
  refine J.move rfl rfl ?_
  refine J.call0 (k := .l) trivial fok62 rfl rfl (fun w hw => Ra.none_ w _ _ _ (hw.rowCs (k := 11) rfl) (by first | assumption | omega)) ?_
  refine J.end ?_
  refine X.then ?_
  refine T.cond_dec rfl (fun h1 => ?_) (fun h1 => ?_)
  · have hz : x2 % 2 ^ 256 = 0 := by omega
    refine T.seq ?_
    refine T.text [.l, .l] rfl ?_
    refine J.build rfl rfl (W 0) (fun w => by kernel_rfl) ?_
    refine J.store 6 rfl rfl rfl rfl (wc 0) rfl sz24 (by first | decide | exact Nat.le_refl _ | exact Nat.le_of_ble_eq_true rfl | (simp [rowN]; done) | (simp [rowN]; omega)) (by first | exact rowN_one _ _ | (simp; done) | (intro u hu; simp at hu; subst hu; rfl) | (intro u hu; simp at hu; rcases hu with rfl | rfl <;> rfl)) (by first | decide | exact Nat.zero_lt_succ _ | simp) trivial (wc 0) rfl ?_
    refine J.end ?_
    refine X.then ?_
    refine T.ret ?_
    refine X.then_ret ?_
    exact X.ret1 rfl (RV.agg 6 rfl rfl agg24 (wc 0) (by rfl) (by rfl) rfl) (fun w' hw' => ⟨retW (by unfold mulmN; rw [if_pos hz]), hw'.sub (Sub.nil _)⟩)
  · have hz : ¬ x2 % 2 ^ 256 = 0 := by omega
    have hp11 : 0 < vl zs11 := by omega
    refine T.skip ?_
    refine X.then ?_
    refine T.seq ?_
    refine T.draw [(4, ⟨some g4, 24, (wc x1)⟩)] [(0, .q), (2, .s), (5, .g), (1, .l), (3, .l), (4, .l), (6, .l), (7, .g), (8, .g), (9, .g), (10, .g), (11, .g)] (by kernel_rfl) (by kernel_rfl) ?_ (by repeat (first | exact Sub.nil _ | refine Sub.cons (by first | rfl | (rw [dgs_zero]; rfl) | (rw [List.drop_length]; rfl) | (simp; done) | (congr 2; omega) | (congr 3; omega)) ?_))
    refine J.loadN (k := .q) trivial 3 rfl rfl agg24 (wc x0) rfl rfl rfl ?_
    refine J.loadNs 4 rfl rfl agg24 (wc x1) rfl rfl rfl ?_
    refine J.move rfl rfl ?_
    refine J.callRow 17 rfl (t := 3) (kd := .i64) fok58 rfl rfl (fun w hw => Ra.of w _) (fun zs17 r17 hz17 hr17 => ?_)
    obtain ⟨hD17, hL17, hV17, hG17⟩ := of_facts hz17
    refine J.callRow 19 rfl (t := 3) (kd := .i64) fok58 rfl rfl (fun w hw => Ra.of w _) (fun zs19 r19 hz19 hr19 => ?_)
    obtain ⟨hD19, hL19, hV19, hG19⟩ := of_facts hz19
    refine J.callRow 20 rfl (t := 3) (kd := .i64) fok59 rfl rfl (fun w hw => Rc.times w _ _ _ (hw.rowCs (k := 17) rfl) _ _ _ (hw.rowCs (k := 19) rfl) (by assumption) (by omega) (by assumption) (by omega)) (fun zs20 r20 hz20 hr20 => ?_)
    obtain ⟨hD20, hL20, hV20⟩ := hz20
    refine J.callRows2 22 7022 (by decide) rfl rfl (t := 3) (kd := .i64) fok63 rfl rfl (fun w hw => Rf.divide w _ _ _ (hw.rowCs (k := 20) rfl) _ _ _ (hw.rowCs (k := 11) rfl) (by assumption) (by omega) (by assumption) (by omega) (by first | assumption | omega)) (fun zs22 ys22 r22 q22 hz22 hr22 hq22 => ?_)
    obtain ⟨hD22, hL22, hV22, hE22, hM22, hW22⟩ := hz22
    refine J.move rfl rfl ?_
    refine J.extract rfl rfl rfl ?_
    refine J.extract rfl rfl rfl ?_
    refine J.assign rfl rfl ?_
    refine J.assign rfl rfl ?_
    refine J.end ?_
    refine X.then ?_
    refine T.seq ?_
    refine T.text [.l, .l, .l] rfl ?_
    refine J.move rfl rfl ?_
    refine J.call0 (k := .l) trivial fok56 rfl rfl (fun w hw => Ra.word w _ _ _ (hw.rowCs (k := 7022) rfl) (by assumption) (by omega)) ?_
    refine J.store 6 rfl rfl rfl rfl _ rfl sz24 (by first | decide | exact Nat.le_refl _ | exact Nat.le_of_ble_eq_true rfl | (simp [rowN]; done) | (simp [rowN]; omega)) (by first | exact rowN_one _ _ | (simp; done) | (intro u hu; simp at hu; subst hu; rfl) | (intro u hu; simp at hu; rcases hu with rfl | rfl <;> rfl)) (by first | decide | exact Nat.zero_lt_succ _ | simp) trivial _ rfl ?_
    refine J.end ?_
    refine X.then ?_
    refine T.ret ?_
    exact X.ret1 rfl (RV.agg 6 rfl rfl agg24 _ (by rfl) (by rfl) rfl) (fun w' hw' => ⟨retW (by unfold mulmN; rw [if_neg hz, hW22, hV20, hV17, hV19, hV11]), hw'.sub (Sub.nil _)⟩)
end Go.Proofs.YtegociefcfcihaaGreatDoor.Rg
