/-
  Walks, printed by gen.py: what each function hands back, said of numbers.
  Conditions: those that each theorem bears.
-/
import Derived.Test.YtegociefcfcihaaGreatDoorChecked
import Derived.Test.YtegociefcfcihaaGreatDoorFn
import Derived.Test.YtegociefcfcihaaGreatDoorFs
import Derived.Test.YtegociefcfcihaaGreatDoorPz
import Derived.Test.YtegociefcfcihaaGreatDoorRa
import Derived.Test.YtegociefcfcihaaGreatDoorRc
import Derived.Test.YtegociefcfcihaaGreatDoorRe
set_option linter.unusedVariables false
set_option maxRecDepth 20000
namespace Go.Proofs.YtegociefcfcihaaGreatDoor.Ri
open Go Go.Fw

theorem zero256 : ZeroT Tryz.prog 60 (.agg (rowN .i64 (List.replicate 256 0)).toArray) := (by unfold ZeroT; kernel_rfl)
theorem sz60 : SizeT Tryz.prog 60 256 := (by unfold SizeT; kernel_rfl)
theorem agg24 : AggT Tryz.prog 24 4 := ⟨⟨_, Tryz.underlying24, rfl⟩, by kernel_rfl⟩
theorem fok58 : FnOk Tryz.prog 58 := FnOk.mk' Tryz.func58 (by kernel_rfl) rfl
theorem fok69 : FnOk Tryz.prog 69 := FnOk.mk' Tryz.func69 (by kernel_rfl) rfl
theorem fok66 : FnOk Tryz.prog 66 := FnOk.mk' Tryz.func66 (by kernel_rfl) rfl
theorem fok61 : FnOk Tryz.prog 61 := FnOk.mk' Tryz.func61 (by kernel_rfl) rfl
theorem fok60 : FnOk Tryz.prog 60 := FnOk.mk' Tryz.func60 (by kernel_rfl) rfl
theorem zero24 : ZeroT Tryz.prog 24 (.agg ([.int .u64 0, .int .u64 0, .int .u64 0, .int .u64 0]).toArray) := (by unfold ZeroT; kernel_rfl)
theorem fok68 : FnOk Tryz.prog 68 := FnOk.mk' Tryz.func68 (by kernel_rfl) rfl
theorem fok56 : FnOk Tryz.prog 56 := FnOk.mk' Tryz.func56 (by kernel_rfl) rfl
theorem sz24 : SizeT Tryz.prog 24 4 := (by unfold SizeT; kernel_rfl)

theorem negative (w : World) (x0 : Nat) :
    Calls Tryz.prog 66 [W x0].toArray w fun e w' => e = .returned (.bool (decide (sgn x0))) ∧ WS w [] [] w' := by
  refine calls_of_T [] 7 [] Tryz.func66 rfl Tryz.ntmps66 (by simp) (WS.refl _ _) ?_
  refine T.seq ?_
  refine T.text [.l, .l] rfl ?_
  refine J.box 1 rfl rfl (wc x0) rfl rfl (fun g1 hg1 => ?_)
  refine J.assign rfl rfl ?_
  refine J.end ?_
  refine X.then ?_
  refine T.seq ?_
  refine T.text [.l, .l, .l, .l, .l] rfl ?_
  refine J.loadN (k := .l) trivial 1 rfl rfl agg24 (wc x0) rfl rfl rfl ?_
  refine J.callRow 4 rfl (t := 3) (kd := .i64) fok58 rfl rfl (fun w hw => Ra.of w _) (fun zs4 r4 hz4 hr4 => ?_)
  obtain ⟨hD4, hL4, hV4, hG4⟩ := of_facts hz4
  refine J.call0 (k := .l) trivial fok69 rfl rfl (fun w hw => Re.bit w _ _ _ 255 (hw.rowCs (k := 4) rfl) (by assumption) (by omega) (by omega)) ?_
  refine J.eql rfl rfl rfl rfl ?_
  refine J.assign rfl rfl ?_
  refine J.end ?_
  refine X.then ?_
  refine T.ret ?_
  exact X.ret1 rfl (RV.tmp rfl) (fun w' hw' => ⟨by congr 2; exact decide_eq_decide.2 (by rw [hV4]; unfold sgn; omega), hw'.sub (Sub.nil _)⟩)

theorem size (w : World) (x0 : Nat) :
    Calls Tryz.prog 64 [W x0].toArray w fun e w' => RowsPost w 3 .i64 (fun zs => Dg zs ∧ zs.length ≤ 33 ∧ vl zs = absN x0) e w' := by
  refine calls_of_T [] 12 [] Tryz.func64 rfl Tryz.ntmps64 (by simp) (WS.refl _ _) ?_
  refine T.seq ?_
  refine T.text [.l, .l] rfl ?_
  refine J.box 1 rfl rfl (wc x0) rfl rfl (fun g1 hg1 => ?_)
  refine J.assign rfl rfl ?_
  refine J.end ?_
  refine X.then ?_
  refine T.seq ?_
  refine T.text [.l, .l, .l] rfl ?_
  refine J.loadN (k := .l) trivial 1 rfl rfl agg24 (wc x0) rfl rfl rfl ?_
  refine J.callRow 5 rfl (t := 3) (kd := .i64) fok58 rfl rfl (fun w hw => Ra.of w _) (fun zs5 r5 hz5 hr5 => ?_)
  obtain ⟨hD5, hL5, hV5, hG5⟩ := of_facts hz5
  refine J.assign rfl rfl ?_
  refine J.end ?_
  refine X.then ?_
  refine T.seq ?_
  refine T.seq ?_
  refine T.text [.l, .l] rfl ?_
  refine J.loadN (k := .l) trivial 1 rfl rfl agg24 (wc x0) rfl rfl rfl ?_
  refine J.call0 (k := .l) trivial fok66 rfl rfl (fun w hw => Ri.negative w _) ?_
  refine J.end ?_
  refine X.then ?_
  refine T.cond_dec rfl (fun h1 => ?_) (fun h1 => ?_)
  · skip
    refine T.seq ?_
    refine T.text [.l, .l, .l, .l] rfl ?_
    refine J.callRow 8 rfl (t := 3) (kd := .i64) fok61 rfl rfl (fun w hw => Ra.full w) (fun zs8 r8 hz8 hr8 => ?_)
    obtain ⟨hD8, hL8, hV8⟩ := full_facts hz8
    refine J.move rfl rfl ?_
    refine J.callRow 10 rfl (t := 3) (kd := .i64) fok60 rfl rfl (fun w hw => Rc.minus w _ _ _ (hw.rowCs (k := 8) rfl) _ _ _ (hw.rowCs (k := 5) rfl) (by assumption) (by omega) (by assumption) (by omega) (by first | assumption | omega)) (fun zs10 r10 hz10 hr10 => ?_)
    obtain ⟨hD10, hL10, hV10⟩ := hz10
    refine J.assign rfl rfl ?_
    refine J.end ?_
    refine X.then ?_
    refine T.ret ?_
    refine X.then_ret ?_
    exact X.ret1 rfl (RV.tmp rfl) (fun w' hw' => RowsPost.mk' zs10 ⟨hD10, by omega, by rw [hV10, hV8, hV5]; unfold absN; rw [if_pos (by assumption)]⟩ r10 hr10 rfl hw' 10 rfl)
  · skip
    refine T.skip ?_
    refine X.then ?_
    refine T.seq ?_
    refine T.text [.l, .l] rfl ?_
    refine J.move rfl rfl ?_
    refine J.assign rfl rfl ?_
    refine J.end ?_
    refine X.then ?_
    refine T.ret ?_
    exact X.ret1 rfl (RV.tmp rfl) (fun w' hw' => RowsPost.mk' zs5 ⟨hD5, by omega, by rw [hV5]; unfold absN; rw [if_neg (by assumption)]⟩ r5 hr5 rfl hw' 5 rfl)

theorem signed (w : World) (A0 : Option Addr) (c0 : Nat) (xs0 : List Nat) (hc0 : Cs w A0 (rowN .i64 xs0)) (p : Prop) [Decidable p] (hx0 : Dg xs0) (hb0 : xs0.length ≤ 4294967296) :
    Calls Tryz.prog 65 [.slice A0 xs0.length c0, .bool (decide p)].toArray w fun e w' => e = .returned (W (if p then negN (vl xs0) else vl xs0)) ∧ WS w [] [] w' := by
  refine calls_of_T [] 13 [] Tryz.func65 rfl Tryz.ntmps65 (by simp) (WS.refl _ _) ?_
  refine T.seq ?_
  refine T.text [.l] rfl ?_
  refine J.alloc 4 rfl zero24 [.int .u64 0, .int .u64 0, .int .u64 0, .int .u64 0] rfl rfl (fun g4 hg4 => ?_)
  refine J.end ?_
  refine X.then ?_
  refine T.seq ?_
  refine T.seq ?_
  refine T.text [.l] rfl ?_
  refine J.move rfl rfl ?_
  refine J.end ?_
  refine X.then ?_
  refine T.cond_dec rfl (fun h1 => ?_) (fun h1 => ?_)
  · skip
    refine T.seq ?_
    refine T.text [.l, .l, .l, .l, .l, .l] rfl ?_
    refine J.callRow 6 rfl (t := 3) (kd := .i64) fok61 rfl rfl (fun w hw => Ra.full w) (fun zs6 r6 hz6 hr6 => ?_)
    obtain ⟨hD6, hL6, hV6⟩ := full_facts hz6
    refine J.move rfl rfl ?_
    refine J.callRow 8 rfl (t := 3) (kd := .i64) fok68 rfl rfl (fun w hw => Ra.cut w _ _ _ (hc0.ws hw (off_nil _)) 32 (by omega)) (fun zs8 r8 hz8 hr8 => ?_)
    obtain ⟨hD8, hL8, hV8⟩ := cut_mod hz8 hx0
    refine J.callRow 9 rfl (t := 3) (kd := .i64) fok60 rfl rfl (fun w hw => Rc.minus w _ _ _ (hw.rowCs (k := 6) rfl) _ _ _ (hw.rowCs (k := 8) rfl) (by assumption) (by omega) (by assumption) (by omega) (by first | assumption | omega)) (fun zs9 r9 hz9 hr9 => ?_)
    obtain ⟨hD9, hL9, hV9⟩ := hz9
    refine J.call0 (k := .l) trivial fok56 rfl rfl (fun w hw => Ra.word w _ _ _ (hw.rowCs (k := 9) rfl) (by assumption) (by omega)) ?_
    refine J.store 4 rfl rfl rfl rfl _ rfl sz24 (by first | decide | exact Nat.le_refl _ | exact Nat.le_of_ble_eq_true rfl | (simp [rowN]; done) | (simp [rowN]; omega)) (by first | exact rowN_one _ _ | (simp; done) | (intro u hu; simp at hu; subst hu; rfl) | (intro u hu; simp at hu; rcases hu with rfl | rfl <;> rfl)) (by first | decide | exact Nat.zero_lt_succ _ | simp) trivial _ rfl ?_
    refine J.end ?_
    refine X.then ?_
    refine T.ret ?_
    refine X.then_ret ?_
    exact X.ret1 rfl (RV.agg 4 rfl rfl agg24 _ (by rfl) (by rfl) rfl) (fun w' hw' => ⟨retW (by rw [if_pos (by assumption), hV9, hV8, hV6, negN_mod]; split <;> omega), hw'.sub (Sub.nil _)⟩)
  · skip
    refine T.skip ?_
    refine X.then ?_
    refine T.seq ?_
    refine T.text [.l, .l, .l] rfl ?_
    refine J.move rfl rfl ?_
    refine J.call0 (k := .l) trivial fok56 rfl rfl (fun w hw => Ra.word w _ _ _ (hc0.ws hw (off_nil _)) (by assumption) (by omega)) ?_
    refine J.store 4 rfl rfl rfl rfl _ rfl sz24 (by first | decide | exact Nat.le_refl _ | exact Nat.le_of_ble_eq_true rfl | (simp [rowN]; done) | (simp [rowN]; omega)) (by first | exact rowN_one _ _ | (simp; done) | (intro u hu; simp at hu; subst hu; rfl) | (intro u hu; simp at hu; rcases hu with rfl | rfl <;> rfl)) (by first | decide | exact Nat.zero_lt_succ _ | simp) trivial _ rfl ?_
    refine J.end ?_
    refine X.then ?_
    refine T.ret ?_
    exact X.ret1 rfl (RV.agg 4 rfl rfl agg24 _ (by rfl) (by rfl) rfl) (fun w' hw' => ⟨retW (by rw [if_neg (by assumption)]), hw'.sub (Sub.nil _)⟩)
end Go.Proofs.YtegociefcfcihaaGreatDoor.Ri
