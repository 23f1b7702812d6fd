/-
  Walks, printed by gen.py: what each function hands back, said of numbers.
  Conditions: those that each theorem bears.
-/
import Derived.Test.YtegociefcfcihaaGreatDoorChecked
import Derived.Test.YtegociefcfcihaaGreatDoorFn
import Derived.Test.YtegociefcfcihaaGreatDoorFs
import Derived.Test.YtegociefcfcihaaGreatDoorPz
import Derived.Test.YtegociefcfcihaaGreatDoorRa
import Derived.Test.YtegociefcfcihaaGreatDoorRc
import Derived.Test.YtegociefcfcihaaGreatDoorRe
import Derived.Test.YtegociefcfcihaaGreatDoorRk
import Derived.Test.YtegociefcfcihaaGreatDoorRl
set_option linter.unusedVariables false
set_option maxRecDepth 20000
namespace Go.Proofs.YtegociefcfcihaaGreatDoor.Rm
open Go Go.Fw

theorem zero256 : ZeroT Tryz.prog 60 (.agg (rowN .i64 (List.replicate 256 0)).toArray) := (by unfold ZeroT; kernel_rfl)
theorem sz60 : SizeT Tryz.prog 60 256 := (by unfold SizeT; kernel_rfl)
theorem zero24 : ZeroT Tryz.prog 24 (.agg ([.int .u64 0, .int .u64 0, .int .u64 0, .int .u64 0]).toArray) := (by unfold ZeroT; kernel_rfl)
theorem agg24 : AggT Tryz.prog 24 4 := ⟨⟨_, Tryz.underlying24, rfl⟩, by kernel_rfl⟩
theorem fok104 : FnOk Tryz.prog 104 := FnOk.mk' Tryz.func104 (by kernel_rfl) rfl
theorem sz24 : SizeT Tryz.prog 24 4 := (by unfold SizeT; kernel_rfl)
theorem fok71 : FnOk Tryz.prog 71 := FnOk.mk' Tryz.func71 (by kernel_rfl) rfl
theorem sz3 : SizeT Tryz.prog 3 1 := (by unfold SizeT; kernel_rfl)
theorem arr60 : ArrT Tryz.prog 60 256 3 1 := ⟨Tryz.underlying60, sz3⟩
theorem one3 : OneT Tryz.prog 3 := ⟨⟨_, Tryz.underlying3, rfl⟩, by kernel_rfl⟩
theorem fok105 : FnOk Tryz.prog 105 := FnOk.mk' Tryz.func105 (by kernel_rfl) rfl
theorem fok67 : FnOk Tryz.prog 67 := FnOk.mk' Tryz.func67 (by kernel_rfl) rfl
theorem fok56 : FnOk Tryz.prog 56 := FnOk.mk' Tryz.func56 (by kernel_rfl) rfl
theorem fok70 : FnOk Tryz.prog 70 := FnOk.mk' Tryz.func70 (by kernel_rfl) rfl
theorem fok58 : FnOk Tryz.prog 58 := FnOk.mk' Tryz.func58 (by kernel_rfl) rfl
theorem sl48 : SlT Tryz.prog 48 3 1 := ⟨Tryz.underlying48, sz3⟩

theorem Shr (w : World) (x0 : Nat) (x1 : Nat) :
    Calls Tryz.prog 86 [W x0, W x1].toArray w fun e w' => e = .returned (W (shrN x0 x1)) ∧ WS w [] [] w' := by
  refine calls_of_T [] 8 [] Tryz.func86 rfl Tryz.ntmps86 (by simp) (WS.refl _ _) ?_
  refine T.seq ?_
  refine T.text [.l, .l, .l] rfl ?_
  refine J.box 2 rfl rfl (wc x0) rfl rfl (fun g2 hg2 => ?_)
  refine J.box 3 rfl rfl (wc x1) rfl rfl (fun g3 hg3 => ?_)
  refine J.alloc 4 rfl zero24 [.int .u64 0, .int .u64 0, .int .u64 0, .int .u64 0] rfl rfl (fun g4 hg4 => ?_)
  refine J.end ?_
  refine X.then ?_
  refine T.seq ?_
  refine T.text [.l, .l, .l, .l] rfl ?_
  refine J.loadN (k := .l) trivial 2 rfl rfl agg24 (wc x0) rfl rfl rfl ?_
  refine J.loadN (k := .l) trivial 3 rfl rfl agg24 (wc x1) rfl rfl rfl ?_
  refine J.call0 (k := .l) trivial fok104 rfl rfl (fun w hw => Rl.lowered w _ _ 0 (by omega)) ?_
  refine J.store 4 rfl rfl rfl rfl (wc (ofB (fun i => if i + (min 256 (x0 % 2 ^ 256)) < 256 then x1 / 2 ^ (i + (min 256 (x0 % 2 ^ 256))) % 2 else 0))) rfl sz24 (by first | decide | exact Nat.le_refl _ | exact Nat.le_of_ble_eq_true rfl | (simp [rowN]; done) | (simp [rowN]; omega)) (by first | exact rowN_one _ _ | (simp; done) | (intro u hu; simp at hu; subst hu; rfl) | (intro u hu; simp at hu; rcases hu with rfl | rfl <;> rfl)) (by first | decide | exact Nat.zero_lt_succ _ | simp) trivial (wc (ofB (fun i => if i + (min 256 (x0 % 2 ^ 256)) < 256 then x1 / 2 ^ (i + (min 256 (x0 % 2 ^ 256))) % 2 else 0))) rfl ?_
  refine J.end ?_
  refine X.then ?_
  refine T.ret ?_
  exact X.ret1 rfl (RV.agg 4 rfl rfl agg24 (wc (ofB (fun i => if i + (min 256 (x0 % 2 ^ 256)) < 256 then x1 / 2 ^ (i + (min 256 (x0 % 2 ^ 256))) % 2 else 0))) (by rfl) (by rfl) rfl) (fun w' hw' => ⟨retW (by rw [ofB_low x0 x1 _ rfl, Nat.mod_mod]), hw'.sub (Sub.nil _)⟩)

theorem Sar (w : World) (x0 : Nat) (x1 : Nat) :
    Calls Tryz.prog 87 [W x0, W x1].toArray w fun e w' => e = .returned (W (sarN x0 x1)) ∧ WS w [] [] w' := by
  have hbt := bit_lt x1 255
  refine calls_of_T [] 13 [] Tryz.func87 rfl Tryz.ntmps87 (by simp) (WS.refl _ _) ?_
  refine T.seq ?_
  refine T.text [.l, .l, .l] rfl ?_
  refine J.box 2 rfl rfl (wc x0) rfl rfl (fun g2 hg2 => ?_)
  refine J.box 3 rfl rfl (wc x1) rfl rfl (fun g3 hg3 => ?_)
  refine J.alloc 4 rfl zero24 [.int .u64 0, .int .u64 0, .int .u64 0, .int .u64 0] rfl rfl (fun g4 hg4 => ?_)
  refine J.end ?_
  refine X.then ?_
  refine T.seq ?_
  refine T.text [.l, .l, .l, .l] rfl ?_
  refine J.loadN (k := .l) trivial 3 rfl rfl agg24 (wc x1) rfl rfl rfl ?_
  refine J.call0 (k := .l) trivial fok71 rfl rfl (fun w hw => Rk.bits w _) ?_
  refine J.alloc 5 rfl zero256 (rowN .i64 (List.replicate 256 0)) rfl rfl (fun g5 hg5 => ?_)
  refine J.store 5 rfl rfl rfl rfl (rowN .i64 (bitsL x1 256)) rfl (by rw [rowN_length, bitsL_length]; exact sz60) (by rw [rowN_length, bitsL_length]; exact Nat.le_refl _) (by first | exact rowN_one _ _ | (simp; done) | (intro u hu; simp at hu; subst hu; rfl) | (intro u hu; simp at hu; rcases hu with rfl | rfl <;> rfl)) (by rw [rowN_length, bitsL_length]; decide) trivial (rowN .i64 (bitsL x1 256)) (put_whole _ _ (by rw [rowN_length, rowN_length, List.length_replicate, bitsL_length])) ?_
  refine J.end ?_
  refine X.then ?_
  refine T.seq ?_
  refine T.text [.l, .l, .l, .l, .l, .l] rfl ?_
  refine J.loadN (k := .l) trivial 2 rfl rfl agg24 (wc x0) rfl rfl rfl ?_
  refine J.loadN (k := .l) trivial 3 rfl rfl agg24 (wc x1) rfl rfl rfl ?_
  refine J.indexArr arr60 rfl rfl (by omega) (by omega) (by rfl) rfl ?_
  refine J.load1 (k := .l) trivial 5 rfl rfl one3 (by exact rowN_get0 _ _ 255 (by rw [bitsL_length]; omega)) rfl ?_
  refine J.as 11 (.int .i64 ((x1 / 2 ^ 255 % 2 : Nat) : Int)) rfl (by rw [bitsL_get _ _ _ (by omega)]) ?_
  refine J.call0 (k := .l) trivial fok104 rfl rfl (fun w hw => Rl.lowered w _ _ (x1 / 2 ^ 255 % 2) hbt) ?_
  refine J.store 4 rfl rfl rfl rfl (wc (ofB (fun i => if i + (min 256 (x0 % 2 ^ 256)) < 256 then x1 / 2 ^ (i + (min 256 (x0 % 2 ^ 256))) % 2 else x1 / 2 ^ 255 % 2))) rfl sz24 (by first | decide | exact Nat.le_refl _ | exact Nat.le_of_ble_eq_true rfl | (simp [rowN]; done) | (simp [rowN]; omega)) (by first | exact rowN_one _ _ | (simp; done) | (intro u hu; simp at hu; subst hu; rfl) | (intro u hu; simp at hu; rcases hu with rfl | rfl <;> rfl)) (by first | decide | exact Nat.zero_lt_succ _ | simp) trivial (wc (ofB (fun i => if i + (min 256 (x0 % 2 ^ 256)) < 256 then x1 / 2 ^ (i + (min 256 (x0 % 2 ^ 256))) % 2 else x1 / 2 ^ 255 % 2))) rfl ?_
  refine J.end ?_
  refine X.then ?_
  refine T.ret ?_
  exact X.ret1 rfl (RV.agg 4 rfl rfl agg24 (wc (ofB (fun i => if i + (min 256 (x0 % 2 ^ 256)) < 256 then x1 / 2 ^ (i + (min 256 (x0 % 2 ^ 256))) % 2 else x1 / 2 ^ 255 % 2))) (by rfl) (by rfl) rfl) (fun w' hw' => ⟨retW (by rw [ofB_sar x0 x1 _ rfl, Nat.mod_mod]), hw'.sub (Sub.nil _)⟩)

theorem Clz (w : World) (x0 : Nat) :
    Calls Tryz.prog 88 [W x0].toArray w fun e w' => e = .returned (W (256 - bitLen (x0 % 2 ^ 256))) ∧ WS w [] [] w' := by
  refine calls_of_T [] 7 [] Tryz.func88 rfl Tryz.ntmps88 (by simp) (WS.refl _ _) ?_
  refine T.seq ?_
  refine T.text [.l, .l] rfl ?_
  refine J.box 1 rfl rfl (wc x0) rfl rfl (fun g1 hg1 => ?_)
  refine J.alloc 2 rfl zero24 [.int .u64 0, .int .u64 0, .int .u64 0, .int .u64 0] rfl rfl (fun g2 hg2 => ?_)
  refine J.end ?_
  refine X.then ?_
  refine T.seq ?_
  refine T.text [.l, .l, .l, .l, .l] rfl ?_
  refine J.loadN (k := .l) trivial 1 rfl rfl agg24 (wc x0) rfl rfl rfl ?_
  refine J.call0 (k := .l) trivial fok105 rfl rfl (fun w hw => Rl.zeros w _) ?_
  refine J.callRow 5 rfl (t := 3) (kd := .i64) fok67 rfl rfl (fun w hw => Rc.small w (256 - bitLen (x0 % 2 ^ 256)) (by omega)) (fun zs5 r5 hz5 hr5 => ?_)
  obtain ⟨hD5, hL5, hV5⟩ := hz5
  refine J.call0 (k := .l) trivial fok56 rfl rfl (fun w hw => Ra.word w _ _ _ (hw.rowCs (k := 5) rfl) (by assumption) (by omega)) ?_
  refine J.store 2 rfl rfl rfl rfl _ rfl sz24 (by first | decide | exact Nat.le_refl _ | exact Nat.le_of_ble_eq_true rfl | (simp [rowN]; done) | (simp [rowN]; omega)) (by first | exact rowN_one _ _ | (simp; done) | (intro u hu; simp at hu; subst hu; rfl) | (intro u hu; simp at hu; rcases hu with rfl | rfl <;> rfl)) (by first | decide | exact Nat.zero_lt_succ _ | simp) trivial _ rfl ?_
  refine J.end ?_
  refine X.then ?_
  refine T.ret ?_
  exact X.ret1 rfl (RV.agg 2 rfl rfl agg24 _ (by rfl) (by rfl) rfl) (fun w' hw' => ⟨retW (by rw [hV5]), hw'.sub (Sub.nil _)⟩)

theorem Byte (w : World) (x0 : Nat) (x1 : Nat) :
    Calls Tryz.prog 84 [W x0, W x1].toArray w fun e w' => e = .returned (W (byteN x0 x1)) ∧ WS w [] [] w' := by
  refine calls_of_T [] 21 [] Tryz.func84 rfl Tryz.ntmps84 (by simp) (WS.refl _ _) ?_
  refine T.seq ?_
  refine T.text [.l, .l, .l] rfl ?_
  refine J.box 2 rfl rfl (wc x0) rfl rfl (fun g2 hg2 => ?_)
  refine J.box 3 rfl rfl (wc x1) rfl rfl (fun g3 hg3 => ?_)
  refine J.alloc 4 rfl zero24 [.int .u64 0, .int .u64 0, .int .u64 0, .int .u64 0] rfl rfl (fun g4 hg4 => ?_)
  refine J.end ?_
  refine X.then ?_
  refine T.seq ?_
  refine T.text [.l, .l, .l] rfl ?_
  refine J.loadN (k := .l) trivial 2 rfl rfl agg24 (wc x0) rfl rfl rfl ?_
  refine J.call0 (k := .l) trivial fok70 rfl rfl (fun w hw => Rk.upTo w _ 32 (by omega)) ?_
  refine J.assign rfl rfl ?_
  refine J.end ?_
  refine X.then ?_
  refine T.seq ?_
  refine T.seq ?_
  refine T.text [.l, .l] rfl ?_
  refine J.move rfl rfl ?_
  refine J.eql rfl rfl rfl rfl ?_
  refine J.end ?_
  refine X.then ?_
  refine T.cond_dec rfl (fun h1 => ?_) (fun h1 => ?_)
  · skip
    refine T.seq ?_
    refine T.text [.l, .l] rfl ?_
    refine J.build rfl rfl (W 0) (fun w => by kernel_rfl) ?_
    refine J.store 4 rfl rfl rfl rfl (wc 0) rfl sz24 (by first | decide | exact Nat.le_refl _ | exact Nat.le_of_ble_eq_true rfl | (simp [rowN]; done) | (simp [rowN]; omega)) (by first | exact rowN_one _ _ | (simp; done) | (intro u hu; simp at hu; subst hu; rfl) | (intro u hu; simp at hu; rcases hu with rfl | rfl <;> rfl)) (by first | decide | exact Nat.zero_lt_succ _ | simp) trivial (wc 0) rfl ?_
    refine J.end ?_
    refine X.then ?_
    refine T.ret ?_
    refine X.then_ret ?_
    exact X.ret1 rfl (RV.agg 4 rfl rfl agg24 (wc 0) (by rfl) (by rfl) rfl) (fun w' hw' => ⟨retW (by unfold byteN; rw [if_neg (by omega)]), hw'.sub (Sub.nil _)⟩)
  · have hk : x0 % 2 ^ 256 < 32 := by omega
    have hml := Nat.mod_lt (x1 / 256 ^ (31 - (min 32 (x0 % 2 ^ 256)))) (show 256 > 0 by omega)
    refine T.skip ?_
    refine X.then ?_
    refine T.seq ?_
    refine T.text [.l, .l, .l] rfl ?_
    refine J.loadN (k := .l) trivial 3 rfl rfl agg24 (wc x1) rfl rfl rfl ?_
    refine J.callRow 13 rfl (t := 3) (kd := .i64) fok58 rfl rfl (fun w hw => Ra.of w _) (fun zs13 r13 hz13 hr13 => ?_)
    obtain ⟨hD13, hL13, hV13, hG13⟩ := of_facts hz13
    refine J.assign rfl rfl ?_
    refine J.end ?_
    refine X.then ?_
    refine T.seq ?_
    refine T.text [.l, .l, .l, .l, .l, .l, .l, .l] rfl ?_
    refine J.move rfl rfl ?_
    refine J.move rfl rfl ?_
    refine J.sub' rfl rfl rfl (by first | exact sub_nat 31 _ (by omega) | exact i64_ok _ (by omega) | exact rfl) ?_
    refine J.indexRow sl48 rfl (hr13.some (by omega)) rfl (by omega) (by omega) (by first | exact Int.toNat_natCast _ | rfl) rfl ?_
    refine J.load1 (k := .l) trivial 13 rfl rfl one3 (by first | rfl | with_reducible exact rowN_get0 _ _ _ (by omega) | with_reducible exact rowN_get1 _ _ _ (by omega) | with_reducible exact rowN_get1s _ _ _ _ (by omega) | exact rowN_get1 _ _ _ (by omega) | exact rowN_get1s _ _ _ _ (by omega) | exact rowN_get0 _ _ _ (by omega)) rfl ?_
    have hgg := hG13 (31 - (min 32 (x0 % 2 ^ 256))) (by omega)
    refine J.as 18 (.int .i64 ((x1 / 256 ^ (31 - (min 32 (x0 % 2 ^ 256))) % 256 : Nat) : Int)) rfl (by rw [hgg]) ?_
    refine J.callRow 19 rfl (t := 3) (kd := .i64) fok67 rfl rfl (fun w hw => Rc.small w (x1 / 256 ^ (31 - (min 32 (x0 % 2 ^ 256))) % 256) (by omega)) (fun zs19 r19 hz19 hr19 => ?_)
    obtain ⟨hD19, hL19, hV19⟩ := hz19
    refine J.call0 (k := .l) trivial fok56 rfl rfl (fun w hw => Ra.word w _ _ _ (hw.rowCs (k := 19) rfl) (by assumption) (by omega)) ?_
    refine J.store 4 rfl rfl rfl rfl _ rfl sz24 (by first | decide | exact Nat.le_refl _ | exact Nat.le_of_ble_eq_true rfl | (simp [rowN]; done) | (simp [rowN]; omega)) (by first | exact rowN_one _ _ | (simp; done) | (intro u hu; simp at hu; subst hu; rfl) | (intro u hu; simp at hu; rcases hu with rfl | rfl <;> rfl)) (by first | decide | exact Nat.zero_lt_succ _ | simp) trivial _ rfl ?_
    refine J.end ?_
    refine X.then ?_
    refine T.ret ?_
    exact X.ret1 rfl (RV.agg 4 rfl rfl agg24 _ (by rfl) (by rfl) rfl) (fun w' hw' => ⟨retW (by rw [hV19]; unfold byteN; rw [if_pos hk, show min 32 (x0 % 2 ^ 256) = x0 % 2 ^ 256 by omega]), hw'.sub (Sub.nil _)⟩)
end Go.Proofs.YtegociefcfcihaaGreatDoor.Rm
