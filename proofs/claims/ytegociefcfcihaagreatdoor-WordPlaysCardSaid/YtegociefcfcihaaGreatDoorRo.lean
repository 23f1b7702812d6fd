/-
  Walks, printed by gen.py: what each function hands back, said of numbers.
  Conditions: those that each theorem bears.
-/
import Derived.Test.YtegociefcfcihaaGreatDoorChecked
import Derived.Test.YtegociefcfcihaaGreatDoorFn
import Derived.Test.YtegociefcfcihaaGreatDoorPv
import Derived.Test.YtegociefcfcihaaGreatDoorRa
import Derived.Test.YtegociefcfcihaaGreatDoorRc
import Derived.Test.YtegociefcfcihaaGreatDoorRd
import Derived.Test.YtegociefcfcihaaGreatDoorRg
import Derived.Test.YtegociefcfcihaaGreatDoorRh
import Derived.Test.YtegociefcfcihaaGreatDoorRj
import Derived.Test.YtegociefcfcihaaGreatDoorRl
import Derived.Test.YtegociefcfcihaaGreatDoorRm
set_option linter.unusedVariables false
set_option maxRecDepth 20000
namespace Go.Proofs.YtegociefcfcihaaGreatDoor.Ro
open Go Go.Fw

theorem sz73 : SizeT Tryz.prog 73 32 := (by unfold SizeT; kernel_rfl)
theorem zero8 : ZeroT Tryz.prog 68 (.agg (rowN .u64 (lg 0)).toArray) := (by unfold ZeroT; kernel_rfl)
theorem one37 : OneT Tryz.prog 37 := ⟨⟨_, Tryz.underlying37, rfl⟩, by kernel_rfl⟩
theorem one41 : OneT Tryz.prog 41 := ⟨⟨_, Tryz.underlying41, rfl⟩, by kernel_rfl⟩
theorem fok24 : FnOk Tryz.prog 24 := FnOk.mk' Tryz.func24 (by kernel_rfl) rfl
theorem fok21 : FnOk Tryz.prog 21 := FnOk.mk' Tryz.func21 (by kernel_rfl) rfl
theorem fok28 : FnOk Tryz.prog 28 := FnOk.mk' Tryz.func28 (by kernel_rfl) rfl
theorem fok29 : FnOk Tryz.prog 29 := FnOk.mk' Tryz.func29 (by kernel_rfl) rfl
theorem fok30 : FnOk Tryz.prog 30 := FnOk.mk' Tryz.func30 (by kernel_rfl) rfl
theorem fok31 : FnOk Tryz.prog 31 := FnOk.mk' Tryz.func31 (by kernel_rfl) rfl
theorem fok32 : FnOk Tryz.prog 32 := FnOk.mk' Tryz.func32 (by kernel_rfl) rfl
theorem fok33 : FnOk Tryz.prog 33 := FnOk.mk' Tryz.func33 (by kernel_rfl) rfl
theorem fok34 : FnOk Tryz.prog 34 := FnOk.mk' Tryz.func34 (by kernel_rfl) rfl
theorem fok35 : FnOk Tryz.prog 35 := FnOk.mk' Tryz.func35 (by kernel_rfl) rfl
theorem fok36 : FnOk Tryz.prog 36 := FnOk.mk' Tryz.func36 (by kernel_rfl) rfl
theorem fok37 : FnOk Tryz.prog 37 := FnOk.mk' Tryz.func37 (by kernel_rfl) rfl
theorem fok26 : FnOk Tryz.prog 26 := FnOk.mk' Tryz.func26 (by kernel_rfl) rfl
theorem fok38 : FnOk Tryz.prog 38 := FnOk.mk' Tryz.func38 (by kernel_rfl) rfl
theorem fok39 : FnOk Tryz.prog 39 := FnOk.mk' Tryz.func39 (by kernel_rfl) rfl
theorem fok40 : FnOk Tryz.prog 40 := FnOk.mk' Tryz.func40 (by kernel_rfl) rfl
theorem fok41 : FnOk Tryz.prog 41 := FnOk.mk' Tryz.func41 (by kernel_rfl) rfl
theorem fok42 : FnOk Tryz.prog 42 := FnOk.mk' Tryz.func42 (by kernel_rfl) rfl
theorem fok43 : FnOk Tryz.prog 43 := FnOk.mk' Tryz.func43 (by kernel_rfl) rfl
theorem fok45 : FnOk Tryz.prog 45 := FnOk.mk' Tryz.func45 (by kernel_rfl) rfl
theorem fok46 : FnOk Tryz.prog 46 := FnOk.mk' Tryz.func46 (by kernel_rfl) rfl
theorem fok47 : FnOk Tryz.prog 47 := FnOk.mk' Tryz.func47 (by kernel_rfl) rfl
theorem fok48 : FnOk Tryz.prog 48 := FnOk.mk' Tryz.func48 (by kernel_rfl) rfl
theorem fok50 : FnOk Tryz.prog 50 := FnOk.mk' Tryz.func50 (by kernel_rfl) rfl
theorem fok51 : FnOk Tryz.prog 51 := FnOk.mk' Tryz.func51 (by kernel_rfl) rfl
theorem fok52 : FnOk Tryz.prog 52 := FnOk.mk' Tryz.func52 (by kernel_rfl) rfl
theorem fok53 : FnOk Tryz.prog 53 := FnOk.mk' Tryz.func53 (by kernel_rfl) rfl
theorem fok54 : FnOk Tryz.prog 54 := FnOk.mk' Tryz.func54 (by kernel_rfl) rfl
theorem func34T : FuncT Tryz.prog 34 := ⟨_, _, _, Tryz.underlying34⟩
theorem fok8 : FnOk Tryz.prog 8 := FnOk.mk' Tryz.func8 (by kernel_rfl) rfl
theorem zero256 : ZeroT Tryz.prog 60 (.agg (rowN .i64 (List.replicate 256 0)).toArray) := (by unfold ZeroT; kernel_rfl)
theorem sz60 : SizeT Tryz.prog 60 256 := (by unfold SizeT; kernel_rfl)
theorem sz31 : SizeT Tryz.prog 31 13 := (by unfold SizeT; kernel_rfl)
theorem zero24 : ZeroT Tryz.prog 24 (.agg ([.int .u64 0, .int .u64 0, .int .u64 0, .int .u64 0]).toArray) := (by unfold ZeroT; kernel_rfl)
theorem sz24 : SizeT Tryz.prog 24 4 := (by unfold SizeT; kernel_rfl)
theorem agg24 : AggT Tryz.prog 24 4 := ⟨⟨_, Tryz.underlying24, rfl⟩, by kernel_rfl⟩
theorem fok74 : FnOk Tryz.prog 74 := FnOk.mk' Tryz.func74 (by kernel_rfl) rfl
theorem fok73 : FnOk Tryz.prog 73 := FnOk.mk' Tryz.func73 (by kernel_rfl) rfl
theorem fok75 : FnOk Tryz.prog 75 := FnOk.mk' Tryz.func75 (by kernel_rfl) rfl
theorem fok76 : FnOk Tryz.prog 76 := FnOk.mk' Tryz.func76 (by kernel_rfl) rfl
theorem fok77 : FnOk Tryz.prog 77 := FnOk.mk' Tryz.func77 (by kernel_rfl) rfl
theorem fok78 : FnOk Tryz.prog 78 := FnOk.mk' Tryz.func78 (by kernel_rfl) rfl
theorem fok79 : FnOk Tryz.prog 79 := FnOk.mk' Tryz.func79 (by kernel_rfl) rfl
theorem fok80 : FnOk Tryz.prog 80 := FnOk.mk' Tryz.func80 (by kernel_rfl) rfl
theorem fok81 : FnOk Tryz.prog 81 := FnOk.mk' Tryz.func81 (by kernel_rfl) rfl
theorem fok82 : FnOk Tryz.prog 82 := FnOk.mk' Tryz.func82 (by kernel_rfl) rfl
theorem fok83 : FnOk Tryz.prog 83 := FnOk.mk' Tryz.func83 (by kernel_rfl) rfl
theorem fok84 : FnOk Tryz.prog 84 := FnOk.mk' Tryz.func84 (by kernel_rfl) rfl
theorem fok85 : FnOk Tryz.prog 85 := FnOk.mk' Tryz.func85 (by kernel_rfl) rfl
theorem fok86 : FnOk Tryz.prog 86 := FnOk.mk' Tryz.func86 (by kernel_rfl) rfl
theorem fok87 : FnOk Tryz.prog 87 := FnOk.mk' Tryz.func87 (by kernel_rfl) rfl
theorem fok88 : FnOk Tryz.prog 88 := FnOk.mk' Tryz.func88 (by kernel_rfl) rfl
theorem fok9 : FnOk Tryz.prog 9 := FnOk.mk' Tryz.func9 (by kernel_rfl) rfl
theorem fok10 : FnOk Tryz.prog 10 := FnOk.mk' Tryz.func10 (by kernel_rfl) rfl
theorem fok11 : FnOk Tryz.prog 11 := FnOk.mk' Tryz.func11 (by kernel_rfl) rfl
theorem fok12 : FnOk Tryz.prog 12 := FnOk.mk' Tryz.func12 (by kernel_rfl) rfl
theorem fok13 : FnOk Tryz.prog 13 := FnOk.mk' Tryz.func13 (by kernel_rfl) rfl
theorem fok14 : FnOk Tryz.prog 14 := FnOk.mk' Tryz.func14 (by kernel_rfl) rfl
theorem fok15 : FnOk Tryz.prog 15 := FnOk.mk' Tryz.func15 (by kernel_rfl) rfl
theorem fok16 : FnOk Tryz.prog 16 := FnOk.mk' Tryz.func16 (by kernel_rfl) rfl
theorem fok17 : FnOk Tryz.prog 17 := FnOk.mk' Tryz.func17 (by kernel_rfl) rfl
theorem fok18 : FnOk Tryz.prog 18 := FnOk.mk' Tryz.func18 (by kernel_rfl) rfl
theorem fok19 : FnOk Tryz.prog 19 := FnOk.mk' Tryz.func19 (by kernel_rfl) rfl
theorem fok20 : FnOk Tryz.prog 20 := FnOk.mk' Tryz.func20 (by kernel_rfl) rfl

theorem truth (w : World) (p : Prop) [Decidable p] :
    Calls Tryz.prog 73 [.bool (decide p)].toArray w fun e w' => e = .returned (W (if p then 1 else 0)) ∧ WS w [] [] w' := by
  refine calls_of_T [] 6 [] Tryz.func73 rfl Tryz.ntmps73 (by simp) (WS.refl _ _) ?_
  refine T.seq ?_
  refine T.text [.l] rfl ?_
  refine J.alloc 2 rfl zero24 [.int .u64 0, .int .u64 0, .int .u64 0, .int .u64 0] rfl rfl (fun g2 hg2 => ?_)
  refine J.end ?_
  refine X.then ?_
  refine T.seq ?_
  refine T.seq ?_
  refine T.text [.l] rfl ?_
  refine J.move rfl rfl ?_
  refine J.end ?_
  refine X.then ?_
  refine T.cond_dec rfl (fun h1 => ?_) (fun h1 => ?_)
  · skip
    refine T.seq ?_
    refine T.text [.l, .l] rfl ?_
    refine J.build rfl rfl (W 1) (fun w => by kernel_rfl) ?_
    refine J.store 2 rfl rfl rfl rfl (wc 1) rfl sz24 (by first | decide | exact Nat.le_refl _ | exact Nat.le_of_ble_eq_true rfl | (simp [rowN]; done) | (simp [rowN]; omega)) (by first | exact rowN_one _ _ | (simp; done) | (intro u hu; simp at hu; subst hu; rfl) | (intro u hu; simp at hu; rcases hu with rfl | rfl <;> rfl)) (by first | decide | exact Nat.zero_lt_succ _ | simp) trivial (wc 1) rfl ?_
    refine J.end ?_
    refine X.then ?_
    refine T.ret ?_
    refine X.then_ret ?_
    exact X.ret1 rfl (RV.agg 2 rfl rfl agg24 (wc 1) (by rfl) (by rfl) rfl) (fun w' hw' => ⟨by rw [if_pos (by assumption)], hw'.sub (Sub.nil _)⟩)
  · skip
    refine T.skip ?_
    refine X.then ?_
    refine T.seq ?_
    refine T.text [.l, .l] rfl ?_
    refine J.build rfl rfl (W 0) (fun w => by kernel_rfl) ?_
    refine J.store 2 rfl rfl rfl rfl (wc 0) rfl sz24 (by first | decide | exact Nat.le_refl _ | exact Nat.le_of_ble_eq_true rfl | (simp [rowN]; done) | (simp [rowN]; omega)) (by first | exact rowN_one _ _ | (simp; done) | (intro u hu; simp at hu; subst hu; rfl) | (intro u hu; simp at hu; rcases hu with rfl | rfl <;> rfl)) (by first | decide | exact Nat.zero_lt_succ _ | simp) trivial (wc 0) rfl ?_
    refine J.end ?_
    refine X.then ?_
    refine T.ret ?_
    exact X.ret1 rfl (RV.agg 2 rfl rfl agg24 (wc 0) (by rfl) (by rfl) rfl) (fun w' hw' => ⟨by rw [if_neg (by assumption)], hw'.sub (Sub.nil _)⟩)

set_option maxHeartbeats 1000000 in
theorem more (w : World) (n : Int) (x0 x1 x2 : Nat) (hn : n < 1 ∨ 11 < n) :
    Calls Tryz.prog 20 [.int .i64 n, W x0, W x1].toArray w fun e w' => e = .returned (.tuple #[W (doW n x0 x1 x2), .bool (doO n).isSome]) ∧ WS w [] [] w' := by
  refine calls_of_T [] 88 [] Tryz.func20 rfl Tryz.ntmps20 (by simp) (WS.refl _ _) ?_
  refine T.seq ?_
  refine T.text [.l, .l, .l, .l] rfl ?_
  refine J.box 4 rfl rfl (wc x0) rfl rfl (fun g4 hg4 => ?_)
  refine J.box 5 rfl rfl (wc x1) rfl rfl (fun g5 hg5 => ?_)
  refine J.alloc 6 rfl zero24 [.int .u64 0, .int .u64 0, .int .u64 0, .int .u64 0] rfl rfl (fun g6 hg6 => ?_)
  refine J.assign rfl rfl ?_
  refine J.end ?_
  refine X.then ?_
  refine T.seq ?_
  refine T.seq ?_
  refine T.text [.l] rfl ?_
  refine J.move rfl rfl ?_
  refine J.end ?_
  refine X.then ?_
  refine T.block ?_
  refine T.seq ?_
  refine T.text [.l, .l] rfl ?_
  refine J.eql rfl rfl rfl rfl ?_
  refine J.assign rfl rfl ?_
  refine J.end ?_
  refine X.then ?_
  refine T.cond_dec rfl (fun h1 => ?_) (fun h1 => ?_)
  · skip
    refine T.seq ?_
    refine T.text [.l, .l, .l, .l, .l, .l] rfl ?_
    refine J.loadN (k := .l) trivial 4 rfl rfl agg24 (wc x0) rfl rfl rfl ?_
    refine J.loadN (k := .l) trivial 5 rfl rfl agg24 (wc x1) rfl rfl rfl ?_
    refine J.call0 (k := .l) trivial fok74 rfl rfl (fun w hw => Ra.Lt w _ _) ?_
    refine J.call0 (k := .l) trivial fok73 rfl rfl (fun w hw => Ro.truth w (x0 % 2 ^ 256 < x1 % 2 ^ 256)) ?_
    refine J.store 6 rfl rfl rfl rfl (wc (if x0 % 2 ^ 256 < x1 % 2 ^ 256 then 1 else 0)) rfl sz24 (by first | decide | exact Nat.le_refl _ | exact Nat.le_of_ble_eq_true rfl | (simp [rowN]; done) | (simp [rowN]; omega)) (by first | exact rowN_one _ _ | (simp; done) | (intro u hu; simp at hu; subst hu; rfl) | (intro u hu; simp at hu; rcases hu with rfl | rfl <;> rfl)) (by first | decide | exact Nat.zero_lt_succ _ | simp) trivial (wc (if x0 % 2 ^ 256 < x1 % 2 ^ 256 then 1 else 0)) rfl ?_
    refine J.assign rfl rfl ?_
    refine J.end ?_
    refine X.then ?_
    refine T.ret ?_
    refine X.inBlock_ret (X.then_ret ?_)
    exact X.ret2 rfl (RV.agg 6 rfl rfl agg24 (wc (if x0 % 2 ^ 256 < x1 % 2 ^ 256 then 1 else 0)) (by rfl) (by rfl) rfl) (RV.tmp rfl) (fun w' hw' => ⟨by first | (subst_vars; rfl) | (rw [doW_none (by omega), doO_none (by omega)]; rfl), hw'.sub (Sub.nil _)⟩)
  · skip
    refine T.seq ?_
    refine T.text [.l, .l] rfl ?_
    refine J.eql rfl rfl rfl rfl ?_
    refine J.assign rfl rfl ?_
    refine J.end ?_
    refine X.then ?_
    refine T.cond_dec rfl (fun h2 => ?_) (fun h2 => ?_)
    · skip
      refine T.seq ?_
      refine T.text [.l, .l, .l, .l, .l, .l] rfl ?_
      refine J.loadN (k := .l) trivial 4 rfl rfl agg24 (wc x0) rfl rfl rfl ?_
      refine J.loadN (k := .l) trivial 5 rfl rfl agg24 (wc x1) rfl rfl rfl ?_
      refine J.call0 (k := .l) trivial fok75 rfl rfl (fun w hw => Ra.Gt w _ _) ?_
      refine J.call0 (k := .l) trivial fok73 rfl rfl (fun w hw => Ro.truth w (x1 % 2 ^ 256 < x0 % 2 ^ 256)) ?_
      refine J.store 6 rfl rfl rfl rfl (wc (if x1 % 2 ^ 256 < x0 % 2 ^ 256 then 1 else 0)) rfl sz24 (by first | decide | exact Nat.le_refl _ | exact Nat.le_of_ble_eq_true rfl | (simp [rowN]; done) | (simp [rowN]; omega)) (by first | exact rowN_one _ _ | (simp; done) | (intro u hu; simp at hu; subst hu; rfl) | (intro u hu; simp at hu; rcases hu with rfl | rfl <;> rfl)) (by first | decide | exact Nat.zero_lt_succ _ | simp) trivial (wc (if x1 % 2 ^ 256 < x0 % 2 ^ 256 then 1 else 0)) rfl ?_
      refine J.assign rfl rfl ?_
      refine J.end ?_
      refine X.then ?_
      refine T.ret ?_
      refine X.inBlock_ret (X.then_ret ?_)
      exact X.ret2 rfl (RV.agg 6 rfl rfl agg24 (wc (if x1 % 2 ^ 256 < x0 % 2 ^ 256 then 1 else 0)) (by rfl) (by rfl) rfl) (RV.tmp rfl) (fun w' hw' => ⟨by first | (subst_vars; rfl) | (rw [doW_none (by omega), doO_none (by omega)]; rfl), hw'.sub (Sub.nil _)⟩)
    · skip
      refine T.seq ?_
      refine T.text [.l, .l] rfl ?_
      refine J.eql rfl rfl rfl rfl ?_
      refine J.assign rfl rfl ?_
      refine J.end ?_
      refine X.then ?_
      refine T.cond_dec rfl (fun h3 => ?_) (fun h3 => ?_)
      · skip
        refine T.seq ?_
        refine T.text [.l, .l, .l, .l, .l, .l] rfl ?_
        refine J.loadN (k := .l) trivial 4 rfl rfl agg24 (wc x0) rfl rfl rfl ?_
        refine J.loadN (k := .l) trivial 5 rfl rfl agg24 (wc x1) rfl rfl rfl ?_
        refine J.call0 (k := .l) trivial fok76 rfl rfl (fun w hw => Rj.SLt w _ _) ?_
        refine J.call0 (k := .l) trivial fok73 rfl rfl (fun w hw => Ro.truth w (sltP x0 x1)) ?_
        refine J.store 6 rfl rfl rfl rfl (wc (if sltP x0 x1 then 1 else 0)) rfl sz24 (by first | decide | exact Nat.le_refl _ | exact Nat.le_of_ble_eq_true rfl | (simp [rowN]; done) | (simp [rowN]; omega)) (by first | exact rowN_one _ _ | (simp; done) | (intro u hu; simp at hu; subst hu; rfl) | (intro u hu; simp at hu; rcases hu with rfl | rfl <;> rfl)) (by first | decide | exact Nat.zero_lt_succ _ | simp) trivial (wc (if sltP x0 x1 then 1 else 0)) rfl ?_
        refine J.assign rfl rfl ?_
        refine J.end ?_
        refine X.then ?_
        refine T.ret ?_
        refine X.inBlock_ret (X.then_ret ?_)
        exact X.ret2 rfl (RV.agg 6 rfl rfl agg24 (wc (if sltP x0 x1 then 1 else 0)) (by rfl) (by rfl) rfl) (RV.tmp rfl) (fun w' hw' => ⟨by first | (subst_vars; rfl) | (rw [doW_none (by omega), doO_none (by omega)]; rfl), hw'.sub (Sub.nil _)⟩)
      · skip
        refine T.seq ?_
        refine T.text [.l, .l] rfl ?_
        refine J.eql rfl rfl rfl rfl ?_
        refine J.assign rfl rfl ?_
        refine J.end ?_
        refine X.then ?_
        refine T.cond_dec rfl (fun h4 => ?_) (fun h4 => ?_)
        · skip
          refine T.seq ?_
          refine T.text [.l, .l, .l, .l, .l, .l] rfl ?_
          refine J.loadN (k := .l) trivial 4 rfl rfl agg24 (wc x0) rfl rfl rfl ?_
          refine J.loadN (k := .l) trivial 5 rfl rfl agg24 (wc x1) rfl rfl rfl ?_
          refine J.call0 (k := .l) trivial fok77 rfl rfl (fun w hw => Rj.SGt w _ _) ?_
          refine J.call0 (k := .l) trivial fok73 rfl rfl (fun w hw => Ro.truth w (sltP x1 x0)) ?_
          refine J.store 6 rfl rfl rfl rfl (wc (if sltP x1 x0 then 1 else 0)) rfl sz24 (by first | decide | exact Nat.le_refl _ | exact Nat.le_of_ble_eq_true rfl | (simp [rowN]; done) | (simp [rowN]; omega)) (by first | exact rowN_one _ _ | (simp; done) | (intro u hu; simp at hu; subst hu; rfl) | (intro u hu; simp at hu; rcases hu with rfl | rfl <;> rfl)) (by first | decide | exact Nat.zero_lt_succ _ | simp) trivial (wc (if sltP x1 x0 then 1 else 0)) rfl ?_
          refine J.assign rfl rfl ?_
          refine J.end ?_
          refine X.then ?_
          refine T.ret ?_
          refine X.inBlock_ret (X.then_ret ?_)
          exact X.ret2 rfl (RV.agg 6 rfl rfl agg24 (wc (if sltP x1 x0 then 1 else 0)) (by rfl) (by rfl) rfl) (RV.tmp rfl) (fun w' hw' => ⟨by first | (subst_vars; rfl) | (rw [doW_none (by omega), doO_none (by omega)]; rfl), hw'.sub (Sub.nil _)⟩)
        · skip
          refine T.seq ?_
          refine T.text [.l, .l] rfl ?_
          refine J.eql rfl rfl rfl rfl ?_
          refine J.assign rfl rfl ?_
          refine J.end ?_
          refine X.then ?_
          refine T.cond_dec rfl (fun h5 => ?_) (fun h5 => ?_)
          · skip
            refine T.seq ?_
            refine T.text [.l, .l, .l, .l, .l, .l] rfl ?_
            refine J.loadN (k := .l) trivial 4 rfl rfl agg24 (wc x0) rfl rfl rfl ?_
            refine J.loadN (k := .l) trivial 5 rfl rfl agg24 (wc x1) rfl rfl rfl ?_
            refine J.call0 (k := .l) trivial fok78 rfl rfl (fun w hw => Rc.Eq w _ _) ?_
            refine J.call0 (k := .l) trivial fok73 rfl rfl (fun w hw => Ro.truth w (x0 % 2 ^ 256 = x1 % 2 ^ 256)) ?_
            refine J.store 6 rfl rfl rfl rfl (wc (if x0 % 2 ^ 256 = x1 % 2 ^ 256 then 1 else 0)) rfl sz24 (by first | decide | exact Nat.le_refl _ | exact Nat.le_of_ble_eq_true rfl | (simp [rowN]; done) | (simp [rowN]; omega)) (by first | exact rowN_one _ _ | (simp; done) | (intro u hu; simp at hu; subst hu; rfl) | (intro u hu; simp at hu; rcases hu with rfl | rfl <;> rfl)) (by first | decide | exact Nat.zero_lt_succ _ | simp) trivial (wc (if x0 % 2 ^ 256 = x1 % 2 ^ 256 then 1 else 0)) rfl ?_
            refine J.assign rfl rfl ?_
            refine J.end ?_
            refine X.then ?_
            refine T.ret ?_
            refine X.inBlock_ret (X.then_ret ?_)
            exact X.ret2 rfl (RV.agg 6 rfl rfl agg24 (wc (if x0 % 2 ^ 256 = x1 % 2 ^ 256 then 1 else 0)) (by rfl) (by rfl) rfl) (RV.tmp rfl) (fun w' hw' => ⟨by first | (subst_vars; rfl) | (rw [doW_none (by omega), doO_none (by omega)]; rfl), hw'.sub (Sub.nil _)⟩)
          · skip
            refine T.seq ?_
            refine T.text [.l, .l] rfl ?_
            refine J.eql rfl rfl rfl rfl ?_
            refine J.assign rfl rfl ?_
            refine J.end ?_
            refine X.then ?_
            refine T.cond_dec rfl (fun h6 => ?_) (fun h6 => ?_)
            · skip
              refine T.seq ?_
              refine T.text [.l, .l, .l, .l, .l] rfl ?_
              refine J.loadN (k := .l) trivial 4 rfl rfl agg24 (wc x0) rfl rfl rfl ?_
              refine J.call0 (k := .l) trivial fok79 rfl rfl (fun w hw => Ra.IsZero w _) ?_
              refine J.call0 (k := .l) trivial fok73 rfl rfl (fun w hw => Ro.truth w (x0 % 2 ^ 256 = 0)) ?_
              refine J.store 6 rfl rfl rfl rfl (wc (if x0 % 2 ^ 256 = 0 then 1 else 0)) rfl sz24 (by first | decide | exact Nat.le_refl _ | exact Nat.le_of_ble_eq_true rfl | (simp [rowN]; done) | (simp [rowN]; omega)) (by first | exact rowN_one _ _ | (simp; done) | (intro u hu; simp at hu; subst hu; rfl) | (intro u hu; simp at hu; rcases hu with rfl | rfl <;> rfl)) (by first | decide | exact Nat.zero_lt_succ _ | simp) trivial (wc (if x0 % 2 ^ 256 = 0 then 1 else 0)) rfl ?_
              refine J.assign rfl rfl ?_
              refine J.end ?_
              refine X.then ?_
              refine T.ret ?_
              refine X.inBlock_ret (X.then_ret ?_)
              exact X.ret2 rfl (RV.agg 6 rfl rfl agg24 (wc (if x0 % 2 ^ 256 = 0 then 1 else 0)) (by rfl) (by rfl) rfl) (RV.tmp rfl) (fun w' hw' => ⟨by first | (subst_vars; rfl) | (rw [doW_none (by omega), doO_none (by omega)]; rfl), hw'.sub (Sub.nil _)⟩)
            · skip
              refine T.seq ?_
              refine T.text [.l, .l] rfl ?_
              refine J.eql rfl rfl rfl rfl ?_
              refine J.assign rfl rfl ?_
              refine J.end ?_
              refine X.then ?_
              refine T.cond_dec rfl (fun h7 => ?_) (fun h7 => ?_)
              · skip
                refine T.seq ?_
                refine T.text [.l, .l, .l, .l, .l] rfl ?_
                refine J.loadN (k := .l) trivial 4 rfl rfl agg24 (wc x0) rfl rfl rfl ?_
                refine J.loadN (k := .l) trivial 5 rfl rfl agg24 (wc x1) rfl rfl rfl ?_
                refine J.call0 (k := .l) trivial fok80 rfl rfl (fun w hw => Rl.And w _ _) ?_
                refine J.store 6 rfl rfl rfl rfl (wc (x0 &&& x1)) rfl sz24 (by first | decide | exact Nat.le_refl _ | exact Nat.le_of_ble_eq_true rfl | (simp [rowN]; done) | (simp [rowN]; omega)) (by first | exact rowN_one _ _ | (simp; done) | (intro u hu; simp at hu; subst hu; rfl) | (intro u hu; simp at hu; rcases hu with rfl | rfl <;> rfl)) (by first | decide | exact Nat.zero_lt_succ _ | simp) trivial (wc (x0 &&& x1)) rfl ?_
                refine J.assign rfl rfl ?_
                refine J.end ?_
                refine X.then ?_
                refine T.ret ?_
                refine X.inBlock_ret (X.then_ret ?_)
                exact X.ret2 rfl (RV.agg 6 rfl rfl agg24 (wc (x0 &&& x1)) (by rfl) (by rfl) rfl) (RV.tmp rfl) (fun w' hw' => ⟨by first | (subst_vars; rfl) | (rw [doW_none (by omega), doO_none (by omega)]; rfl), hw'.sub (Sub.nil _)⟩)
              · skip
                refine T.seq ?_
                refine T.text [.l, .l] rfl ?_
                refine J.eql rfl rfl rfl rfl ?_
                refine J.assign rfl rfl ?_
                refine J.end ?_
                refine X.then ?_
                refine T.cond_dec rfl (fun h8 => ?_) (fun h8 => ?_)
                · skip
                  refine T.seq ?_
                  refine T.text [.l, .l, .l, .l, .l] rfl ?_
                  refine J.loadN (k := .l) trivial 4 rfl rfl agg24 (wc x0) rfl rfl rfl ?_
                  refine J.loadN (k := .l) trivial 5 rfl rfl agg24 (wc x1) rfl rfl rfl ?_
                  refine J.call0 (k := .l) trivial fok81 rfl rfl (fun w hw => Rl.Or w _ _) ?_
                  refine J.store 6 rfl rfl rfl rfl (wc (x0 ||| x1)) rfl sz24 (by first | decide | exact Nat.le_refl _ | exact Nat.le_of_ble_eq_true rfl | (simp [rowN]; done) | (simp [rowN]; omega)) (by first | exact rowN_one _ _ | (simp; done) | (intro u hu; simp at hu; subst hu; rfl) | (intro u hu; simp at hu; rcases hu with rfl | rfl <;> rfl)) (by first | decide | exact Nat.zero_lt_succ _ | simp) trivial (wc (x0 ||| x1)) rfl ?_
                  refine J.assign rfl rfl ?_
                  refine J.end ?_
                  refine X.then ?_
                  refine T.ret ?_
                  refine X.inBlock_ret (X.then_ret ?_)
                  exact X.ret2 rfl (RV.agg 6 rfl rfl agg24 (wc (x0 ||| x1)) (by rfl) (by rfl) rfl) (RV.tmp rfl) (fun w' hw' => ⟨by first | (subst_vars; rfl) | (rw [doW_none (by omega), doO_none (by omega)]; rfl), hw'.sub (Sub.nil _)⟩)
                · skip
                  refine T.seq ?_
                  refine T.text [.l, .l] rfl ?_
                  refine J.eql rfl rfl rfl rfl ?_
                  refine J.assign rfl rfl ?_
                  refine J.end ?_
                  refine X.then ?_
                  refine T.cond_dec rfl (fun h9 => ?_) (fun h9 => ?_)
                  · skip
                    refine T.seq ?_
                    refine T.text [.l, .l, .l, .l, .l] rfl ?_
                    refine J.loadN (k := .l) trivial 4 rfl rfl agg24 (wc x0) rfl rfl rfl ?_
                    refine J.loadN (k := .l) trivial 5 rfl rfl agg24 (wc x1) rfl rfl rfl ?_
                    refine J.call0 (k := .l) trivial fok82 rfl rfl (fun w hw => Rl.Xor w _ _) ?_
                    refine J.store 6 rfl rfl rfl rfl (wc (x0 ^^^ x1)) rfl sz24 (by first | decide | exact Nat.le_refl _ | exact Nat.le_of_ble_eq_true rfl | (simp [rowN]; done) | (simp [rowN]; omega)) (by first | exact rowN_one _ _ | (simp; done) | (intro u hu; simp at hu; subst hu; rfl) | (intro u hu; simp at hu; rcases hu with rfl | rfl <;> rfl)) (by first | decide | exact Nat.zero_lt_succ _ | simp) trivial (wc (x0 ^^^ x1)) rfl ?_
                    refine J.assign rfl rfl ?_
                    refine J.end ?_
                    refine X.then ?_
                    refine T.ret ?_
                    refine X.inBlock_ret (X.then_ret ?_)
                    exact X.ret2 rfl (RV.agg 6 rfl rfl agg24 (wc (x0 ^^^ x1)) (by rfl) (by rfl) rfl) (RV.tmp rfl) (fun w' hw' => ⟨by first | (subst_vars; rfl) | (rw [doW_none (by omega), doO_none (by omega)]; rfl), hw'.sub (Sub.nil _)⟩)
                  · skip
                    refine T.seq ?_
                    refine T.text [.l, .l] rfl ?_
                    refine J.eql rfl rfl rfl rfl ?_
                    refine J.assign rfl rfl ?_
                    refine J.end ?_
                    refine X.then ?_
                    refine T.cond_dec rfl (fun h10 => ?_) (fun h10 => ?_)
                    · skip
                      refine T.seq ?_
                      refine T.text [.l, .l, .l, .l] rfl ?_
                      refine J.loadN (k := .l) trivial 4 rfl rfl agg24 (wc x0) rfl rfl rfl ?_
                      refine J.call0 (k := .l) trivial fok83 rfl rfl (fun w hw => Rl.Not w _) ?_
                      refine J.store 6 rfl rfl rfl rfl (wc (notN x0)) rfl sz24 (by first | decide | exact Nat.le_refl _ | exact Nat.le_of_ble_eq_true rfl | (simp [rowN]; done) | (simp [rowN]; omega)) (by first | exact rowN_one _ _ | (simp; done) | (intro u hu; simp at hu; subst hu; rfl) | (intro u hu; simp at hu; rcases hu with rfl | rfl <;> rfl)) (by first | decide | exact Nat.zero_lt_succ _ | simp) trivial (wc (notN x0)) rfl ?_
                      refine J.assign rfl rfl ?_
                      refine J.end ?_
                      refine X.then ?_
                      refine T.ret ?_
                      refine X.inBlock_ret (X.then_ret ?_)
                      exact X.ret2 rfl (RV.agg 6 rfl rfl agg24 (wc (notN x0)) (by rfl) (by rfl) rfl) (RV.tmp rfl) (fun w' hw' => ⟨by first | (subst_vars; rfl) | (rw [doW_none (by omega), doO_none (by omega)]; rfl), hw'.sub (Sub.nil _)⟩)
                    · skip
                      refine T.seq ?_
                      refine T.text [.l, .l] rfl ?_
                      refine J.eql rfl rfl rfl rfl ?_
                      refine J.assign rfl rfl ?_
                      refine J.end ?_
                      refine X.then ?_
                      refine T.cond_dec rfl (fun h11 => ?_) (fun h11 => ?_)
                      · skip
                        refine T.seq ?_
                        refine T.text [.l, .l, .l, .l, .l] rfl ?_
                        refine J.loadN (k := .l) trivial 4 rfl rfl agg24 (wc x0) rfl rfl rfl ?_
                        refine J.loadN (k := .l) trivial 5 rfl rfl agg24 (wc x1) rfl rfl rfl ?_
                        refine J.call0 (k := .l) trivial fok84 rfl rfl (fun w hw => Rm.Byte w _ _) ?_
                        refine J.store 6 rfl rfl rfl rfl (wc (byteN x0 x1)) rfl sz24 (by first | decide | exact Nat.le_refl _ | exact Nat.le_of_ble_eq_true rfl | (simp [rowN]; done) | (simp [rowN]; omega)) (by first | exact rowN_one _ _ | (simp; done) | (intro u hu; simp at hu; subst hu; rfl) | (intro u hu; simp at hu; rcases hu with rfl | rfl <;> rfl)) (by first | decide | exact Nat.zero_lt_succ _ | simp) trivial (wc (byteN x0 x1)) rfl ?_
                        refine J.assign rfl rfl ?_
                        refine J.end ?_
                        refine X.then ?_
                        refine T.ret ?_
                        refine X.inBlock_ret (X.then_ret ?_)
                        exact X.ret2 rfl (RV.agg 6 rfl rfl agg24 (wc (byteN x0 x1)) (by rfl) (by rfl) rfl) (RV.tmp rfl) (fun w' hw' => ⟨by first | (subst_vars; rfl) | (rw [doW_none (by omega), doO_none (by omega)]; rfl), hw'.sub (Sub.nil _)⟩)
                      · skip
                        refine T.seq ?_
                        refine T.text [.l, .l] rfl ?_
                        refine J.eql rfl rfl rfl rfl ?_
                        refine J.assign rfl rfl ?_
                        refine J.end ?_
                        refine X.then ?_
                        refine T.cond_dec rfl (fun h12 => ?_) (fun h12 => ?_)
                        · skip
                          refine T.seq ?_
                          refine T.text [.l, .l, .l, .l, .l] rfl ?_
                          refine J.loadN (k := .l) trivial 4 rfl rfl agg24 (wc x0) rfl rfl rfl ?_
                          refine J.loadN (k := .l) trivial 5 rfl rfl agg24 (wc x1) rfl rfl rfl ?_
                          refine J.call0 (k := .l) trivial fok85 rfl rfl (fun w hw => Rl.Shl w _ _) ?_
                          refine J.store 6 rfl rfl rfl rfl (wc (shlN x0 x1)) rfl sz24 (by first | decide | exact Nat.le_refl _ | exact Nat.le_of_ble_eq_true rfl | (simp [rowN]; done) | (simp [rowN]; omega)) (by first | exact rowN_one _ _ | (simp; done) | (intro u hu; simp at hu; subst hu; rfl) | (intro u hu; simp at hu; rcases hu with rfl | rfl <;> rfl)) (by first | decide | exact Nat.zero_lt_succ _ | simp) trivial (wc (shlN x0 x1)) rfl ?_
                          refine J.assign rfl rfl ?_
                          refine J.end ?_
                          refine X.then ?_
                          refine T.ret ?_
                          refine X.inBlock_ret (X.then_ret ?_)
                          exact X.ret2 rfl (RV.agg 6 rfl rfl agg24 (wc (shlN x0 x1)) (by rfl) (by rfl) rfl) (RV.tmp rfl) (fun w' hw' => ⟨by first | (subst_vars; rfl) | (rw [doW_none (by omega), doO_none (by omega)]; rfl), hw'.sub (Sub.nil _)⟩)
                        · skip
                          refine T.seq ?_
                          refine T.text [.l, .l] rfl ?_
                          refine J.eql rfl rfl rfl rfl ?_
                          refine J.assign rfl rfl ?_
                          refine J.end ?_
                          refine X.then ?_
                          refine T.cond_dec rfl (fun h13 => ?_) (fun h13 => ?_)
                          · skip
                            refine T.seq ?_
                            refine T.text [.l, .l, .l, .l, .l] rfl ?_
                            refine J.loadN (k := .l) trivial 4 rfl rfl agg24 (wc x0) rfl rfl rfl ?_
                            refine J.loadN (k := .l) trivial 5 rfl rfl agg24 (wc x1) rfl rfl rfl ?_
                            refine J.call0 (k := .l) trivial fok86 rfl rfl (fun w hw => Rm.Shr w _ _) ?_
                            refine J.store 6 rfl rfl rfl rfl (wc (shrN x0 x1)) rfl sz24 (by first | decide | exact Nat.le_refl _ | exact Nat.le_of_ble_eq_true rfl | (simp [rowN]; done) | (simp [rowN]; omega)) (by first | exact rowN_one _ _ | (simp; done) | (intro u hu; simp at hu; subst hu; rfl) | (intro u hu; simp at hu; rcases hu with rfl | rfl <;> rfl)) (by first | decide | exact Nat.zero_lt_succ _ | simp) trivial (wc (shrN x0 x1)) rfl ?_
                            refine J.assign rfl rfl ?_
                            refine J.end ?_
                            refine X.then ?_
                            refine T.ret ?_
                            refine X.inBlock_ret (X.then_ret ?_)
                            exact X.ret2 rfl (RV.agg 6 rfl rfl agg24 (wc (shrN x0 x1)) (by rfl) (by rfl) rfl) (RV.tmp rfl) (fun w' hw' => ⟨by first | (subst_vars; rfl) | (rw [doW_none (by omega), doO_none (by omega)]; rfl), hw'.sub (Sub.nil _)⟩)
                          · skip
                            refine T.seq ?_
                            refine T.text [.l, .l] rfl ?_
                            refine J.eql rfl rfl rfl rfl ?_
                            refine J.assign rfl rfl ?_
                            refine J.end ?_
                            refine X.then ?_
                            refine T.cond_dec rfl (fun h14 => ?_) (fun h14 => ?_)
                            · skip
                              refine T.seq ?_
                              refine T.text [.l, .l, .l, .l, .l] rfl ?_
                              refine J.loadN (k := .l) trivial 4 rfl rfl agg24 (wc x0) rfl rfl rfl ?_
                              refine J.loadN (k := .l) trivial 5 rfl rfl agg24 (wc x1) rfl rfl rfl ?_
                              refine J.call0 (k := .l) trivial fok87 rfl rfl (fun w hw => Rm.Sar w _ _) ?_
                              refine J.store 6 rfl rfl rfl rfl (wc (sarN x0 x1)) rfl sz24 (by first | decide | exact Nat.le_refl _ | exact Nat.le_of_ble_eq_true rfl | (simp [rowN]; done) | (simp [rowN]; omega)) (by first | exact rowN_one _ _ | (simp; done) | (intro u hu; simp at hu; subst hu; rfl) | (intro u hu; simp at hu; rcases hu with rfl | rfl <;> rfl)) (by first | decide | exact Nat.zero_lt_succ _ | simp) trivial (wc (sarN x0 x1)) rfl ?_
                              refine J.assign rfl rfl ?_
                              refine J.end ?_
                              refine X.then ?_
                              refine T.ret ?_
                              refine X.inBlock_ret (X.then_ret ?_)
                              exact X.ret2 rfl (RV.agg 6 rfl rfl agg24 (wc (sarN x0 x1)) (by rfl) (by rfl) rfl) (RV.tmp rfl) (fun w' hw' => ⟨by first | (subst_vars; rfl) | (rw [doW_none (by omega), doO_none (by omega)]; rfl), hw'.sub (Sub.nil _)⟩)
                            · skip
                              refine T.seq ?_
                              refine T.text [.l, .l] rfl ?_
                              refine J.eql rfl rfl rfl rfl ?_
                              refine J.assign rfl rfl ?_
                              refine J.end ?_
                              refine X.then ?_
                              refine T.cond_dec rfl (fun h15 => ?_) (fun h15 => ?_)
                              · skip
                                refine T.seq ?_
                                refine T.text [.l, .l, .l, .l] rfl ?_
                                refine J.loadN (k := .l) trivial 4 rfl rfl agg24 (wc x0) rfl rfl rfl ?_
                                refine J.call0 (k := .l) trivial fok88 rfl rfl (fun w hw => Rm.Clz w _) ?_
                                refine J.store 6 rfl rfl rfl rfl (wc (256 - bitLen (x0 % 2 ^ 256))) rfl sz24 (by first | decide | exact Nat.le_refl _ | exact Nat.le_of_ble_eq_true rfl | (simp [rowN]; done) | (simp [rowN]; omega)) (by first | exact rowN_one _ _ | (simp; done) | (intro u hu; simp at hu; subst hu; rfl) | (intro u hu; simp at hu; rcases hu with rfl | rfl <;> rfl)) (by first | decide | exact Nat.zero_lt_succ _ | simp) trivial (wc (256 - bitLen (x0 % 2 ^ 256))) rfl ?_
                                refine J.assign rfl rfl ?_
                                refine J.end ?_
                                refine X.then ?_
                                refine T.ret ?_
                                refine X.inBlock_ret (X.then_ret ?_)
                                exact X.ret2 rfl (RV.agg 6 rfl rfl agg24 (wc (256 - bitLen (x0 % 2 ^ 256))) (by rfl) (by rfl) rfl) (RV.tmp rfl) (fun w' hw' => ⟨by first | (subst_vars; rfl) | (rw [doW_none (by omega), doO_none (by omega)]; rfl), hw'.sub (Sub.nil _)⟩)
                              · skip
                                refine T.skip ?_
                                refine X.inBlock (X.then ?_)
                                refine T.seq ?_
                                refine T.text [.l, .l, .l] rfl ?_
                                refine J.build rfl rfl (W 0) (fun w => by kernel_rfl) ?_
                                refine J.store 6 rfl rfl rfl rfl (wc 0) rfl sz24 (by first | decide | exact Nat.le_refl _ | exact Nat.le_of_ble_eq_true rfl | (simp [rowN]; done) | (simp [rowN]; omega)) (by first | exact rowN_one _ _ | (simp; done) | (intro u hu; simp at hu; subst hu; rfl) | (intro u hu; simp at hu; rcases hu with rfl | rfl <;> rfl)) (by first | decide | exact Nat.zero_lt_succ _ | simp) trivial (wc 0) rfl ?_
                                refine J.assign rfl rfl ?_
                                refine J.end ?_
                                refine X.then ?_
                                refine T.ret ?_
                                exact X.ret2 rfl (RV.agg 6 rfl rfl agg24 (wc 0) (by rfl) (by rfl) rfl) (RV.tmp rfl) (fun w' hw' => ⟨by first | (subst_vars; rfl) | (rw [doW_none (by omega), doO_none (by omega)]; rfl), hw'.sub (Sub.nil _)⟩)

set_option maxHeartbeats 1000000 in
theorem Do (w : World) (n : Int) (x0 x1 x2 : Nat) :
    Calls Tryz.prog 6 [.int .i64 n, W x0, W x1, W x2].toArray w fun e w' => e = .returned (.tuple #[W (doW n x0 x1 x2), .bool (doO n).isSome]) ∧ WS w [] [] w' := by
  refine calls_of_T [] 74 [] Tryz.func6 rfl Tryz.ntmps6 (by simp) (WS.refl _ _) ?_
  refine T.seq ?_
  refine T.text [.l, .l, .l, .l, .l] rfl ?_
  refine J.box 5 rfl rfl (wc x0) rfl rfl (fun g5 hg5 => ?_)
  refine J.box 6 rfl rfl (wc x1) rfl rfl (fun g6 hg6 => ?_)
  refine J.box 7 rfl rfl (wc x2) rfl rfl (fun g7 hg7 => ?_)
  refine J.alloc 8 rfl zero24 [.int .u64 0, .int .u64 0, .int .u64 0, .int .u64 0] rfl rfl (fun g8 hg8 => ?_)
  refine J.assign rfl rfl ?_
  refine J.end ?_
  refine X.then ?_
  refine T.seq ?_
  refine T.seq ?_
  refine T.text [.l] rfl ?_
  refine J.move rfl rfl ?_
  refine J.end ?_
  refine X.then ?_
  refine T.block ?_
  refine T.seq ?_
  refine T.text [.l, .l] rfl ?_
  refine J.eql rfl rfl rfl rfl ?_
  refine J.assign rfl rfl ?_
  refine J.end ?_
  refine X.then ?_
  refine T.cond_dec rfl (fun h1 => ?_) (fun h1 => ?_)
  · skip
    refine T.seq ?_
    refine T.text [.l, .l, .l, .l, .l] rfl ?_
    refine J.loadN (k := .l) trivial 5 rfl rfl agg24 (wc x0) rfl rfl rfl ?_
    refine J.loadN (k := .l) trivial 6 rfl rfl agg24 (wc x1) rfl rfl rfl ?_
    refine J.call0 (k := .l) trivial fok9 rfl rfl (fun w hw => Rd.Add w _ _) ?_
    refine J.store 8 rfl rfl rfl rfl (wc (x0 + x1)) rfl sz24 (by first | decide | exact Nat.le_refl _ | exact Nat.le_of_ble_eq_true rfl | (simp [rowN]; done) | (simp [rowN]; omega)) (by first | exact rowN_one _ _ | (simp; done) | (intro u hu; simp at hu; subst hu; rfl) | (intro u hu; simp at hu; rcases hu with rfl | rfl <;> rfl)) (by first | decide | exact Nat.zero_lt_succ _ | simp) trivial (wc (x0 + x1)) rfl ?_
    refine J.assign rfl rfl ?_
    refine J.end ?_
    refine X.then ?_
    refine T.ret ?_
    refine X.inBlock_ret (X.then_ret ?_)
    exact X.ret2 rfl (RV.agg 8 rfl rfl agg24 (wc (x0 + x1)) (by rfl) (by rfl) rfl) (RV.tmp rfl) (fun w' hw' => ⟨by first | (subst_vars; rfl) | (rw [doW_none (by omega), doO_none (by omega)]; rfl), hw'.sub (Sub.nil _)⟩)
  · skip
    refine T.seq ?_
    refine T.text [.l, .l] rfl ?_
    refine J.eql rfl rfl rfl rfl ?_
    refine J.assign rfl rfl ?_
    refine J.end ?_
    refine X.then ?_
    refine T.cond_dec rfl (fun h2 => ?_) (fun h2 => ?_)
    · skip
      refine T.seq ?_
      refine T.text [.l, .l, .l, .l, .l] rfl ?_
      refine J.loadN (k := .l) trivial 5 rfl rfl agg24 (wc x0) rfl rfl rfl ?_
      refine J.loadN (k := .l) trivial 6 rfl rfl agg24 (wc x1) rfl rfl rfl ?_
      refine J.call0 (k := .l) trivial fok10 rfl rfl (fun w hw => Rd.Mul w _ _) ?_
      refine J.store 8 rfl rfl rfl rfl (wc (x0 * x1)) rfl sz24 (by first | decide | exact Nat.le_refl _ | exact Nat.le_of_ble_eq_true rfl | (simp [rowN]; done) | (simp [rowN]; omega)) (by first | exact rowN_one _ _ | (simp; done) | (intro u hu; simp at hu; subst hu; rfl) | (intro u hu; simp at hu; rcases hu with rfl | rfl <;> rfl)) (by first | decide | exact Nat.zero_lt_succ _ | simp) trivial (wc (x0 * x1)) rfl ?_
      refine J.assign rfl rfl ?_
      refine J.end ?_
      refine X.then ?_
      refine T.ret ?_
      refine X.inBlock_ret (X.then_ret ?_)
      exact X.ret2 rfl (RV.agg 8 rfl rfl agg24 (wc (x0 * x1)) (by rfl) (by rfl) rfl) (RV.tmp rfl) (fun w' hw' => ⟨by first | (subst_vars; rfl) | (rw [doW_none (by omega), doO_none (by omega)]; rfl), hw'.sub (Sub.nil _)⟩)
    · skip
      refine T.seq ?_
      refine T.text [.l, .l] rfl ?_
      refine J.eql rfl rfl rfl rfl ?_
      refine J.assign rfl rfl ?_
      refine J.end ?_
      refine X.then ?_
      refine T.cond_dec rfl (fun h3 => ?_) (fun h3 => ?_)
      · skip
        refine T.seq ?_
        refine T.text [.l, .l, .l, .l, .l] rfl ?_
        refine J.loadN (k := .l) trivial 5 rfl rfl agg24 (wc x0) rfl rfl rfl ?_
        refine J.loadN (k := .l) trivial 6 rfl rfl agg24 (wc x1) rfl rfl rfl ?_
        refine J.call0 (k := .l) trivial fok11 rfl rfl (fun w hw => Rd.Sub w _ _) ?_
        refine J.store 8 rfl rfl rfl rfl (wc (dif x0 x1)) rfl sz24 (by first | decide | exact Nat.le_refl _ | exact Nat.le_of_ble_eq_true rfl | (simp [rowN]; done) | (simp [rowN]; omega)) (by first | exact rowN_one _ _ | (simp; done) | (intro u hu; simp at hu; subst hu; rfl) | (intro u hu; simp at hu; rcases hu with rfl | rfl <;> rfl)) (by first | decide | exact Nat.zero_lt_succ _ | simp) trivial (wc (dif x0 x1)) rfl ?_
        refine J.assign rfl rfl ?_
        refine J.end ?_
        refine X.then ?_
        refine T.ret ?_
        refine X.inBlock_ret (X.then_ret ?_)
        exact X.ret2 rfl (RV.agg 8 rfl rfl agg24 (wc (dif x0 x1)) (by rfl) (by rfl) rfl) (RV.tmp rfl) (fun w' hw' => ⟨by first | (subst_vars; rfl) | (rw [doW_none (by omega), doO_none (by omega)]; rfl), hw'.sub (Sub.nil _)⟩)
      · skip
        refine T.seq ?_
        refine T.text [.l, .l] rfl ?_
        refine J.eql rfl rfl rfl rfl ?_
        refine J.assign rfl rfl ?_
        refine J.end ?_
        refine X.then ?_
        refine T.cond_dec rfl (fun h4 => ?_) (fun h4 => ?_)
        · skip
          refine T.seq ?_
          refine T.text [.l, .l, .l, .l, .l] rfl ?_
          refine J.loadN (k := .l) trivial 5 rfl rfl agg24 (wc x0) rfl rfl rfl ?_
          refine J.loadN (k := .l) trivial 6 rfl rfl agg24 (wc x1) rfl rfl rfl ?_
          refine J.call0 (k := .l) trivial fok12 rfl rfl (fun w hw => Rg.Div w _ _) ?_
          refine J.store 8 rfl rfl rfl rfl (wc (divN x0 x1)) rfl sz24 (by first | decide | exact Nat.le_refl _ | exact Nat.le_of_ble_eq_true rfl | (simp [rowN]; done) | (simp [rowN]; omega)) (by first | exact rowN_one _ _ | (simp; done) | (intro u hu; simp at hu; subst hu; rfl) | (intro u hu; simp at hu; rcases hu with rfl | rfl <;> rfl)) (by first | decide | exact Nat.zero_lt_succ _ | simp) trivial (wc (divN x0 x1)) rfl ?_
          refine J.assign rfl rfl ?_
          refine J.end ?_
          refine X.then ?_
          refine T.ret ?_
          refine X.inBlock_ret (X.then_ret ?_)
          exact X.ret2 rfl (RV.agg 8 rfl rfl agg24 (wc (divN x0 x1)) (by rfl) (by rfl) rfl) (RV.tmp rfl) (fun w' hw' => ⟨by first | (subst_vars; rfl) | (rw [doW_none (by omega), doO_none (by omega)]; rfl), hw'.sub (Sub.nil _)⟩)
        · skip
          refine T.seq ?_
          refine T.text [.l, .l] rfl ?_
          refine J.eql rfl rfl rfl rfl ?_
          refine J.assign rfl rfl ?_
          refine J.end ?_
          refine X.then ?_
          refine T.cond_dec rfl (fun h5 => ?_) (fun h5 => ?_)
          · skip
            refine T.seq ?_
            refine T.text [.l, .l, .l, .l, .l] rfl ?_
            refine J.loadN (k := .l) trivial 5 rfl rfl agg24 (wc x0) rfl rfl rfl ?_
            refine J.loadN (k := .l) trivial 6 rfl rfl agg24 (wc x1) rfl rfl rfl ?_
            refine J.call0 (k := .l) trivial fok13 rfl rfl (fun w hw => Rj.SDiv w _ _) ?_
            refine J.store 8 rfl rfl rfl rfl (wc (sdivN x0 x1)) rfl sz24 (by first | decide | exact Nat.le_refl _ | exact Nat.le_of_ble_eq_true rfl | (simp [rowN]; done) | (simp [rowN]; omega)) (by first | exact rowN_one _ _ | (simp; done) | (intro u hu; simp at hu; subst hu; rfl) | (intro u hu; simp at hu; rcases hu with rfl | rfl <;> rfl)) (by first | decide | exact Nat.zero_lt_succ _ | simp) trivial (wc (sdivN x0 x1)) rfl ?_
            refine J.assign rfl rfl ?_
            refine J.end ?_
            refine X.then ?_
            refine T.ret ?_
            refine X.inBlock_ret (X.then_ret ?_)
            exact X.ret2 rfl (RV.agg 8 rfl rfl agg24 (wc (sdivN x0 x1)) (by rfl) (by rfl) rfl) (RV.tmp rfl) (fun w' hw' => ⟨by first | (subst_vars; rfl) | (rw [doW_none (by omega), doO_none (by omega)]; rfl), hw'.sub (Sub.nil _)⟩)
          · skip
            refine T.seq ?_
            refine T.text [.l, .l] rfl ?_
            refine J.eql rfl rfl rfl rfl ?_
            refine J.assign rfl rfl ?_
            refine J.end ?_
            refine X.then ?_
            refine T.cond_dec rfl (fun h6 => ?_) (fun h6 => ?_)
            · skip
              refine T.seq ?_
              refine T.text [.l, .l, .l, .l, .l] rfl ?_
              refine J.loadN (k := .l) trivial 5 rfl rfl agg24 (wc x0) rfl rfl rfl ?_
              refine J.loadN (k := .l) trivial 6 rfl rfl agg24 (wc x1) rfl rfl rfl ?_
              refine J.call0 (k := .l) trivial fok14 rfl rfl (fun w hw => Rg.Mod w _ _) ?_
              refine J.store 8 rfl rfl rfl rfl (wc (modN x0 x1)) rfl sz24 (by first | decide | exact Nat.le_refl _ | exact Nat.le_of_ble_eq_true rfl | (simp [rowN]; done) | (simp [rowN]; omega)) (by first | exact rowN_one _ _ | (simp; done) | (intro u hu; simp at hu; subst hu; rfl) | (intro u hu; simp at hu; rcases hu with rfl | rfl <;> rfl)) (by first | decide | exact Nat.zero_lt_succ _ | simp) trivial (wc (modN x0 x1)) rfl ?_
              refine J.assign rfl rfl ?_
              refine J.end ?_
              refine X.then ?_
              refine T.ret ?_
              refine X.inBlock_ret (X.then_ret ?_)
              exact X.ret2 rfl (RV.agg 8 rfl rfl agg24 (wc (modN x0 x1)) (by rfl) (by rfl) rfl) (RV.tmp rfl) (fun w' hw' => ⟨by first | (subst_vars; rfl) | (rw [doW_none (by omega), doO_none (by omega)]; rfl), hw'.sub (Sub.nil _)⟩)
            · skip
              refine T.seq ?_
              refine T.text [.l, .l] rfl ?_
              refine J.eql rfl rfl rfl rfl ?_
              refine J.assign rfl rfl ?_
              refine J.end ?_
              refine X.then ?_
              refine T.cond_dec rfl (fun h7 => ?_) (fun h7 => ?_)
              · skip
                refine T.seq ?_
                refine T.text [.l, .l, .l, .l, .l] rfl ?_
                refine J.loadN (k := .l) trivial 5 rfl rfl agg24 (wc x0) rfl rfl rfl ?_
                refine J.loadN (k := .l) trivial 6 rfl rfl agg24 (wc x1) rfl rfl rfl ?_
                refine J.call0 (k := .l) trivial fok15 rfl rfl (fun w hw => Rj.SMod w _ _) ?_
                refine J.store 8 rfl rfl rfl rfl (wc (smodN x0 x1)) rfl sz24 (by first | decide | exact Nat.le_refl _ | exact Nat.le_of_ble_eq_true rfl | (simp [rowN]; done) | (simp [rowN]; omega)) (by first | exact rowN_one _ _ | (simp; done) | (intro u hu; simp at hu; subst hu; rfl) | (intro u hu; simp at hu; rcases hu with rfl | rfl <;> rfl)) (by first | decide | exact Nat.zero_lt_succ _ | simp) trivial (wc (smodN x0 x1)) rfl ?_
                refine J.assign rfl rfl ?_
                refine J.end ?_
                refine X.then ?_
                refine T.ret ?_
                refine X.inBlock_ret (X.then_ret ?_)
                exact X.ret2 rfl (RV.agg 8 rfl rfl agg24 (wc (smodN x0 x1)) (by rfl) (by rfl) rfl) (RV.tmp rfl) (fun w' hw' => ⟨by first | (subst_vars; rfl) | (rw [doW_none (by omega), doO_none (by omega)]; rfl), hw'.sub (Sub.nil _)⟩)
              · skip
                refine T.seq ?_
                refine T.text [.l, .l] rfl ?_
                refine J.eql rfl rfl rfl rfl ?_
                refine J.assign rfl rfl ?_
                refine J.end ?_
                refine X.then ?_
                refine T.cond_dec rfl (fun h8 => ?_) (fun h8 => ?_)
                · skip
                  refine T.seq ?_
                  refine T.text [.l, .l, .l, .l, .l, .l] rfl ?_
                  refine J.loadN (k := .l) trivial 5 rfl rfl agg24 (wc x0) rfl rfl rfl ?_
                  refine J.loadN (k := .l) trivial 6 rfl rfl agg24 (wc x1) rfl rfl rfl ?_
                  refine J.loadN (k := .l) trivial 7 rfl rfl agg24 (wc x2) rfl rfl rfl ?_
                  refine J.call0 (k := .l) trivial fok16 rfl rfl (fun w hw => Rg.AddMod w _ _ _) ?_
                  refine J.store 8 rfl rfl rfl rfl (wc (addmN x0 x1 x2)) rfl sz24 (by first | decide | exact Nat.le_refl _ | exact Nat.le_of_ble_eq_true rfl | (simp [rowN]; done) | (simp [rowN]; omega)) (by first | exact rowN_one _ _ | (simp; done) | (intro u hu; simp at hu; subst hu; rfl) | (intro u hu; simp at hu; rcases hu with rfl | rfl <;> rfl)) (by first | decide | exact Nat.zero_lt_succ _ | simp) trivial (wc (addmN x0 x1 x2)) rfl ?_
                  refine J.assign rfl rfl ?_
                  refine J.end ?_
                  refine X.then ?_
                  refine T.ret ?_
                  refine X.inBlock_ret (X.then_ret ?_)
                  exact X.ret2 rfl (RV.agg 8 rfl rfl agg24 (wc (addmN x0 x1 x2)) (by rfl) (by rfl) rfl) (RV.tmp rfl) (fun w' hw' => ⟨by first | (subst_vars; rfl) | (rw [doW_none (by omega), doO_none (by omega)]; rfl), hw'.sub (Sub.nil _)⟩)
                · skip
                  refine T.seq ?_
                  refine T.text [.l, .l] rfl ?_
                  refine J.eql rfl rfl rfl rfl ?_
                  refine J.assign rfl rfl ?_
                  refine J.end ?_
                  refine X.then ?_
                  refine T.cond_dec rfl (fun h9 => ?_) (fun h9 => ?_)
                  · skip
                    refine T.seq ?_
                    refine T.text [.l, .l, .l, .l, .l, .l] rfl ?_
                    refine J.loadN (k := .l) trivial 5 rfl rfl agg24 (wc x0) rfl rfl rfl ?_
                    refine J.loadN (k := .l) trivial 6 rfl rfl agg24 (wc x1) rfl rfl rfl ?_
                    refine J.loadN (k := .l) trivial 7 rfl rfl agg24 (wc x2) rfl rfl rfl ?_
                    refine J.call0 (k := .l) trivial fok17 rfl rfl (fun w hw => Rg.MulMod w _ _ _) ?_
                    refine J.store 8 rfl rfl rfl rfl (wc (mulmN x0 x1 x2)) rfl sz24 (by first | decide | exact Nat.le_refl _ | exact Nat.le_of_ble_eq_true rfl | (simp [rowN]; done) | (simp [rowN]; omega)) (by first | exact rowN_one _ _ | (simp; done) | (intro u hu; simp at hu; subst hu; rfl) | (intro u hu; simp at hu; rcases hu with rfl | rfl <;> rfl)) (by first | decide | exact Nat.zero_lt_succ _ | simp) trivial (wc (mulmN x0 x1 x2)) rfl ?_
                    refine J.assign rfl rfl ?_
                    refine J.end ?_
                    refine X.then ?_
                    refine T.ret ?_
                    refine X.inBlock_ret (X.then_ret ?_)
                    exact X.ret2 rfl (RV.agg 8 rfl rfl agg24 (wc (mulmN x0 x1 x2)) (by rfl) (by rfl) rfl) (RV.tmp rfl) (fun w' hw' => ⟨by first | (subst_vars; rfl) | (rw [doW_none (by omega), doO_none (by omega)]; rfl), hw'.sub (Sub.nil _)⟩)
                  · skip
                    refine T.seq ?_
                    refine T.text [.l, .l] rfl ?_
                    refine J.eql rfl rfl rfl rfl ?_
                    refine J.assign rfl rfl ?_
                    refine J.end ?_
                    refine X.then ?_
                    refine T.cond_dec rfl (fun h10 => ?_) (fun h10 => ?_)
                    · skip
                      refine T.seq ?_
                      refine T.text [.l, .l, .l, .l, .l] rfl ?_
                      refine J.loadN (k := .l) trivial 5 rfl rfl agg24 (wc x0) rfl rfl rfl ?_
                      refine J.loadN (k := .l) trivial 6 rfl rfl agg24 (wc x1) rfl rfl rfl ?_
                      refine J.call0 (k := .l) trivial fok18 rfl rfl (fun w hw => Rh.Exp w _ _) ?_
                      refine J.store 8 rfl rfl rfl rfl (wc (powN x0 x1)) rfl sz24 (by first | decide | exact Nat.le_refl _ | exact Nat.le_of_ble_eq_true rfl | (simp [rowN]; done) | (simp [rowN]; omega)) (by first | exact rowN_one _ _ | (simp; done) | (intro u hu; simp at hu; subst hu; rfl) | (intro u hu; simp at hu; rcases hu with rfl | rfl <;> rfl)) (by first | decide | exact Nat.zero_lt_succ _ | simp) trivial (wc (powN x0 x1)) rfl ?_
                      refine J.assign rfl rfl ?_
                      refine J.end ?_
                      refine X.then ?_
                      refine T.ret ?_
                      refine X.inBlock_ret (X.then_ret ?_)
                      exact X.ret2 rfl (RV.agg 8 rfl rfl agg24 (wc (powN x0 x1)) (by rfl) (by rfl) rfl) (RV.tmp rfl) (fun w' hw' => ⟨by first | (subst_vars; rfl) | (rw [doW_none (by omega), doO_none (by omega)]; rfl), hw'.sub (Sub.nil _)⟩)
                    · skip
                      refine T.seq ?_
                      refine T.text [.l, .l] rfl ?_
                      refine J.eql rfl rfl rfl rfl ?_
                      refine J.assign rfl rfl ?_
                      refine J.end ?_
                      refine X.then ?_
                      refine T.cond_dec rfl (fun h11 => ?_) (fun h11 => ?_)
                      · skip
                        refine T.seq ?_
                        refine T.text [.l, .l, .l, .l, .l] rfl ?_
                        refine J.loadN (k := .l) trivial 5 rfl rfl agg24 (wc x0) rfl rfl rfl ?_
                        refine J.loadN (k := .l) trivial 6 rfl rfl agg24 (wc x1) rfl rfl rfl ?_
                        refine J.call0 (k := .l) trivial fok19 rfl rfl (fun w hw => Rl.SignExtend w _ _) ?_
                        refine J.store 8 rfl rfl rfl rfl (wc (sxN x0 x1)) rfl sz24 (by first | decide | exact Nat.le_refl _ | exact Nat.le_of_ble_eq_true rfl | (simp [rowN]; done) | (simp [rowN]; omega)) (by first | exact rowN_one _ _ | (simp; done) | (intro u hu; simp at hu; subst hu; rfl) | (intro u hu; simp at hu; rcases hu with rfl | rfl <;> rfl)) (by first | decide | exact Nat.zero_lt_succ _ | simp) trivial (wc (sxN x0 x1)) rfl ?_
                        refine J.assign rfl rfl ?_
                        refine J.end ?_
                        refine X.then ?_
                        refine T.ret ?_
                        refine X.inBlock_ret (X.then_ret ?_)
                        exact X.ret2 rfl (RV.agg 8 rfl rfl agg24 (wc (sxN x0 x1)) (by rfl) (by rfl) rfl) (RV.tmp rfl) (fun w' hw' => ⟨by first | (subst_vars; rfl) | (rw [doW_none (by omega), doO_none (by omega)]; rfl), hw'.sub (Sub.nil _)⟩)
                      · skip
                        refine T.skip ?_
                        refine X.inBlock (X.then ?_)
                        refine T.seq ?_
                        refine T.text [.l, .l, .l, .l, .l, .l, .l, .l] rfl ?_
                        refine J.move rfl rfl ?_
                        refine J.loadN (k := .l) trivial 5 rfl rfl agg24 (wc x0) rfl rfl rfl ?_
                        refine J.loadN (k := .l) trivial 6 rfl rfl agg24 (wc x1) rfl rfl rfl ?_
                        refine J.call0 (k := .l) trivial fok20 rfl rfl (fun w hw => Ro.more w n x0 x1 x2 (by omega)) ?_
                        refine J.extract rfl rfl rfl ?_
                        refine J.extract rfl rfl rfl ?_
                        refine J.store 8 rfl rfl rfl rfl (wc (doW n x0 x1 x2)) rfl sz24 (by first | decide | exact Nat.le_refl _ | exact Nat.le_of_ble_eq_true rfl | (simp [rowN]; done) | (simp [rowN]; omega)) (by first | exact rowN_one _ _ | (simp; done) | (intro u hu; simp at hu; subst hu; rfl) | (intro u hu; simp at hu; rcases hu with rfl | rfl <;> rfl)) (by first | decide | exact Nat.zero_lt_succ _ | simp) trivial (wc (doW n x0 x1 x2)) rfl ?_
                        refine J.assign rfl rfl ?_
                        refine J.end ?_
                        refine X.then ?_
                        refine T.ret ?_
                        exact X.ret2 rfl (RV.agg 8 rfl rfl agg24 (wc (doW n x0 x1 x2)) (by rfl) (by rfl) rfl) (RV.tmp rfl) (fun w' hw' => ⟨rfl, hw'.sub (Sub.nil _)⟩)
end Go.Proofs.YtegociefcfcihaaGreatDoor.Ro
