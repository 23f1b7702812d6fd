/-
  Texts that the statement stands on, one behind the other: plain lemmas and walks of functions.
  No condition.
-/
import Derived.Test.YtlllcafedekojaaGreatDoorChecked
import Derived.Test.YtlllcafedekojaaGreatDoorRows
import Derived.ProofKit
import Derived.LaidMore
import Derived.OpenShut
import Derived.Stop.Joined
import Derived.Below
import Derived.Test.YtlllcafedekojaaGreatDoorMga
import Derived.Test.YtlllcafedekojaaGreatDoorMgb
import Derived.Test.YtlllcafedekojaaGreatDoorMgc
import Derived.Test.YtlllcafedekojaaGreatDoorMgd
set_option linter.unusedVariables false
set_option maxRecDepth 20000
namespace Go.Proofs.YtlllcafedekojaaGreatDoor.Dm
open Go Go.Fw

theorem sz287 : SizeT Tryz.prog 287 32 := (by unfold SizeT; kernel_rfl)
theorem fok64 : FnOk Tryz.prog 64 := FnOk.mk' Tryz.func64 (by kernel_rfl) rfl
theorem sz96 : SizeT Tryz.prog 96 2 := (by unfold SizeT; kernel_rfl)
theorem arr97 : ArrT Tryz.prog 97 4 96 2 := ⟨Tryz.underlying97, sz96⟩
theorem agg96 : AggT Tryz.prog 96 2 := ⟨⟨_, Tryz.underlying96, rfl⟩, by kernel_rfl⟩
theorem zero96 : ZeroT Tryz.prog 96 (.agg ([.nilFunc, .nilFunc]).toArray) := (by unfold ZeroT; kernel_rfl)
theorem sz93 : SizeT Tryz.prog 93 1 := (by unfold SizeT; kernel_rfl)
theorem fld96_0 : FldT Tryz.prog 96 0 93 0 0 := ⟨by kernel_rfl, sz93⟩
theorem one93 : OneT Tryz.prog 93 := ⟨⟨_, Tryz.underlying93, rfl⟩, by kernel_rfl⟩
theorem sz47 : SizeT Tryz.prog 47 20 := (by unfold SizeT; kernel_rfl)
theorem fld56_0 : FldT Tryz.prog 56 0 47 0 19 := ⟨by kernel_rfl, sz47⟩
theorem agg47 : AggT Tryz.prog 47 20 := ⟨⟨_, Tryz.underlying47, rfl⟩, by kernel_rfl⟩
theorem zero53 : ZeroT Tryz.prog 53 (.agg ([.int .u8 0, .int .u8 0, .int .u8 0, .int .u8 0, .int .u8 0, .int .u8 0, .int .u8 0, .int .u8 0, .int .u8 0, .int .u8 0, .int .u8 0, .int .u8 0, .int .u8 0, .int .u8 0, .int .u8 0, .int .u8 0, .int .u8 0, .int .u8 0, .int .u8 0, .int .u8 0, .int .i64 0, .int .u64 0, .int .u64 0, .int .u64 0, .int .u64 0, .int .u64 0, .int .u64 0, .int .u64 0, .int .u64 0, .int .u64 0, .int .u64 0, .int .u64 0, .int .u64 0, .slice none 0 0, .slice none 0 0]).toArray) := (by unfold ZeroT; kernel_rfl)
theorem sz53 : SizeT Tryz.prog 53 35 := (by unfold SizeT; kernel_rfl)
theorem fok81 : FnOk Tryz.prog 81 := FnOk.mk' Tryz.func81 (by kernel_rfl) rfl
theorem sz50 : SizeT Tryz.prog 50 4 := (by unfold SizeT; kernel_rfl)
theorem fld53_3 : FldT Tryz.prog 53 3 50 25 3 := ⟨by kernel_rfl, sz50⟩
theorem sz51 : SizeT Tryz.prog 51 1 := (by unfold SizeT; kernel_rfl)
theorem fld53_5 : FldT Tryz.prog 53 5 51 33 0 := ⟨by kernel_rfl, sz51⟩
theorem fld53_4 : FldT Tryz.prog 53 4 50 29 3 := ⟨by kernel_rfl, sz50⟩
theorem fld53_6 : FldT Tryz.prog 53 6 51 34 0 := ⟨by kernel_rfl, sz51⟩
theorem agg53 : AggT Tryz.prog 53 35 := ⟨⟨_, Tryz.underlying53, rfl⟩, by kernel_rfl⟩
theorem fok61 : FnOk Tryz.prog 61 := FnOk.mk' Tryz.func61 (by kernel_rfl) rfl
theorem fok58 : FnOk Tryz.prog 58 := FnOk.mk' Tryz.func58 (by kernel_rfl) rfl
theorem el53 : ElT Tryz.prog 53 35 176 (.agg ([.int .u8 0, .int .u8 0, .int .u8 0, .int .u8 0, .int .u8 0, .int .u8 0, .int .u8 0, .int .u8 0, .int .u8 0, .int .u8 0, .int .u8 0, .int .u8 0, .int .u8 0, .int .u8 0, .int .u8 0, .int .u8 0, .int .u8 0, .int .u8 0, .int .u8 0, .int .u8 0, .int .i64 0, .int .u64 0, .int .u64 0, .int .u64 0, .int .u64 0, .int .u64 0, .int .u64 0, .int .u64 0, .int .u64 0, .int .u64 0, .int .u64 0, .int .u64 0, .int .u64 0, .slice none 0 0, .slice none 0 0]).toArray) := ⟨by kernel_rfl, rfl, by decide, by decide⟩
theorem fok85 : FnOk Tryz.prog 85 := FnOk.mk' Tryz.func85 (by kernel_rfl) rfl
theorem fok87 : FnOk Tryz.prog 87 := FnOk.mk' Tryz.func87 (by kernel_rfl) rfl
theorem sz54 : SizeT Tryz.prog 54 1 := (by unfold SizeT; kernel_rfl)
theorem fld56_4 : FldT Tryz.prog 56 4 54 26 0 := ⟨by kernel_rfl, sz54⟩
theorem one54 : OneT Tryz.prog 54 := ⟨⟨_, Tryz.underlying54, rfl⟩, by kernel_rfl⟩
theorem fok65 : FnOk Tryz.prog 65 := FnOk.mk' Tryz.func65 (by kernel_rfl) rfl

set_option maxHeartbeats 4000000 in
theorem between (w : World) (n : Nat) (B : List (Option Nat)) (a b : Ac) (hn : n ≤ w.heap.size) (hB : ∀ g, some g ∈ B → g < w.heap.size) (ha : a.Ok w n B) (hb : b.Ok w n B) (hsa : a.sl.length = 0) (hsb : b.sl.length = 0) :
    Calls Tryz.prog 41 [.slice none 0 0, .agg a.cells.toArray, .agg b.cells.toArray].toArray w fun e w' => ∃ q : List Ch × RowIx, (q.1.map Ch.v = bt a b 4 ∧ q.2.Ok 35 q.1.length ∧ Fit w' n B (hdOf q.2.id) (rowC q.1) ∧ AllC w' n B q.1) ∧ e = .returned (q.2.val q.1.length) ∧ WS w [] [] w' := by
  refine calls_of_T [] 55 [] Tryz.func41 rfl Tryz.ntmps41 (by simp) (WS.refl _ _) ?_
  refine T.seq ?_
  refine T.text [.l, .l, .l] rfl ?_
  refine J.box 4 rfl rfl (a.cells) rfl rfl (fun g4 hg4 => ?_)
  refine J.box 5 rfl rfl (b.cells) rfl rfl (fun g5 hg5 => ?_)
  refine J.assign rfl rfl ?_
  refine J.end ?_
  refine X.then ?_
  refine T.seq ?_
  refine T.seq ?_
  refine T.addNil 0 53 ?_
  refine T.text [.l, .l] rfl ?_
  refine J.call0 (k := .l) trivial fok64 rfl rfl (fun w hw => Dk.views w) ?_
  refine J.move rfl rfl ?_
  refine J.end ?_
  refine X.then ?_
  refine T.block ?_
  refine T.snap [(0, ⟨none, 53, []⟩), (4, ⟨some g4, 56, (a.cells)⟩), (5, ⟨some g5, 56, (b.cells)⟩)] (by repeat (first | exact Sub.nil _ | refine Sub.cons (by first | rfl | (rw [dgs_zero]; rfl) | (rw [List.drop_length]; rfl) | (simp; done) | (congr 2; omega) | (congr 3; omega)) ?_ | exact Sub.refl _ | refine sub_snap ?_ rfl)) rfl (fun Wl1 hWWl1 => ?_)
  have kpWl1 := (keep_base (B0 := B) (l1 := [(0, ⟨none, 53, []⟩), (4, ⟨some g4, 56, (a.cells)⟩), (5, ⟨some g5, 56, (b.cells)⟩)]) hn (fun g hg => by cases hg) hWWl1 (by repeat (first | exact Sub.nil _ | refine Sub.cons (by first | rfl | (rw [dgs_zero]; rfl) | (rw [List.drop_length]; rfl) | (simp; done) | (congr 2; omega) | (congr 3; omega)) ?_ | exact Sub.refl _ | refine sub_snap ?_ rfl)) rfl)
  have ha := ha.keep kpWl1
  have hb := hb.keep kpWl1
  have hVWl1 := hWWl1.sub (Sub.nil _)
  refine T.loop (ι := World × Nat × List Ch × RowIx) (fun ((W, i, zs, r) : World × Nat × List Ch × RowIx) => i ≤ 4 ∧ zs.map Ch.v = bt a b i ∧ zs.length ≤ i ∧ r.Ok 35 zs.length ∧ WS w [] [] W ∧ a.Ok W n (B ++ [r.id, some g4, some g5]) ∧ b.Ok W n (B ++ [r.id, some g4, some g5]) ∧ AllC W n (B ++ [r.id, some g4, some g5]) zs) (fun ((W, i, zs, r) : World × Nat × List Ch × RowIx) => [(1, .agg a.cells.toArray), (2, .agg b.cells.toArray), (4, .pointer (some ⟨g4, 0, none⟩)), (5, .pointer (some ⟨g5, 0, none⟩)), (6, .slice none 0 0), (10, .agg ([.nilFunc, .nilFunc, .func (.func 81) #[] #[], .func (.func 83) #[] #[], .func (.func 85) #[] #[], .func (.func 86) #[] #[], .func (.func 87) #[] #[], .func (.func 88) #[] #[]] : List Value).toArray), (11, .int .i64 ((i : Nat) : Int)), (0, r.val zs.length)]) (fun ((W, i, zs, r) : World × Nat × List Ch × RowIx) => ((0, r.ent 53 (rowC zs)) :: (4, ⟨some g4, 56, a.cells⟩) :: (5, ⟨some g5, 56, b.cells⟩) :: snapL W w.heap.size [r.id, some g4, some g5])) (fun ((W, i, zs, r) : World × Nat × List Ch × RowIx) => 4 - i) ⟨Wl1, 0, [], RowIx.nil⟩ ⟨Nat.zero_le _, rfl, Nat.le_refl _, RowIx.nil_ok 35, hVWl1, ha, hb, AllC.nil⟩ (by repeat (first | exact Sub.nil _ | refine Sub.cons (by first | rfl | (rw [dgs_zero]; rfl) | (rw [List.drop_length]; rfl) | (simp; done) | (congr 2; omega) | (congr 3; omega)) ?_ | exact Sub.refl _ | refine sub_snap ?_ rfl)) (by repeat (first | exact Sub.nil _ | refine Sub.cons (by first | rfl | (rw [dgs_zero]; rfl) | (rw [List.drop_length]; rfl) | (simp; done) | (congr 2; omega) | (congr 3; omega)) ?_ | exact Sub.refl _ | refine sub_snap ?_ rfl)) ?_
  rintro ⟨W, i, zs, r⟩ ⟨hi, hm, hzl, hr, hV, ha, hb, hz⟩
  try dsimp only at *
  refine T.seq ?_
  refine T.text [.l] rfl ?_
  refine J.lss rfl rfl rfl rfl ?_
  refine J.end ?_
  refine X.then ?_
  refine T.seq ?_
  refine T.cond_dec rfl (fun h2 => ?_) (fun h2 => ?_)
  · rcases (show i = 0 ∨ i = 1 ∨ i = 2 ∨ i = 3 from by omega) with rfl | rfl | rfl | rfl
    · skip
      refine T.skip ?_
      refine X.then ?_
      refine T.seq ?_
      refine T.block ?_
      refine T.seq ?_
      refine T.text [.l, .l, .l, .l, .l] rfl ?_
      refine J.move rfl rfl ?_
      refine J.indexN arr97 agg96 rfl rfl (by decide) (by decide) rfl rfl rfl ?_
      refine J.alloc 8 rfl zero96 [.nilFunc, .nilFunc] rfl rfl (fun g8 hg8 => ?_)
      refine J.assign rfl rfl ?_
      refine J.store 8 rfl rfl rfl rfl ([.nilFunc, .nilFunc] : List Value) rfl sz96 (by first | decide | exact Nat.le_refl _ | exact Nat.le_of_ble_eq_true rfl | (simp [rowN]; done) | (simp [rowN]; omega)) (by first | exact rowN_one _ _ | (simp; done) | (intro u hu; simp at hu; subst hu; rfl) | (intro u hu; simp at hu; rcases hu with rfl | rfl <;> rfl)) (by first | decide | exact Nat.zero_lt_succ _ | simp) trivial ([.nilFunc, .nilFunc] : List Value) rfl ?_
      refine J.end ?_
      refine X.then ?_
      refine T.seq ?_
      refine T.seq ?_
      refine T.text [.l, .l, .l] rfl ?_
      refine J.fieldAddr fld96_0 rfl rfl ?_
      refine J.load1 (k := .l) trivial 8 rfl rfl one93 (by first | rfl | with_reducible exact rowN_get0 _ _ _ (by omega) | with_reducible exact rowN_get1 _ _ _ (by omega) | with_reducible exact rowN_get1s _ _ _ _ (by omega) | exact rowN_get1 _ _ _ (by omega) | exact rowN_get1s _ _ _ _ (by omega) | exact rowN_get0 _ _ _ (by omega)) rfl ?_
      refine J.eqNilN Tryz.underlying93 rfl rfl rfl ?_
      refine J.end ?_
      refine X.then ?_
      refine T.cond_true rfl ?_
      refine T.exit ?_
      refine X.then_exit (X.inBlock_eq (X.then ?_))
      refine T.text [.l, .l] rfl ?_
      refine J.add rfl rfl rfl (by first | exact add_nat _ 1 (by omega) | exact i64_ok _ (by omega) | exact rfl) ?_
      refine J.as 46 (.int .i64 ((1 : Nat) : Int)) rfl (by rfl) ?_
      refine J.move rfl rfl ?_
      refine J.end ?_
      refine X.snap [(0, r.ent 53 (rowC zs)), (4, ⟨some g4, 56, a.cells⟩), (5, ⟨some g5, 56, b.cells⟩)] (by repeat (first | exact Sub.nil _ | refine Sub.cons (by first | rfl | (rw [dgs_zero]; rfl) | (rw [List.drop_length]; rfl) | (simp; done) | (congr 2; omega) | (congr 3; omega)) ?_ | exact Sub.refl _ | refine sub_snap ?_ rfl)) rfl (fun Wx3 hWWx3 => ?_)
      have kpWx3 := (keep_snap (I := [r.id, some g4, some g5]) (B0 := B) (l1 := [(0, r.ent 53 (rowC zs)), (4, ⟨some g4, 56, a.cells⟩), (5, ⟨some g5, 56, b.cells⟩)]) hV hn (fun g hg => by cases hg) hWWx3 (by repeat (first | exact Sub.refl _ | refine sub_snap ?_ rfl)) (by repeat (first | exact Sub.nil _ | refine Sub.cons (by first | rfl | (rw [dgs_zero]; rfl) | (rw [List.drop_length]; rfl) | (simp; done) | (congr 2; omega) | (congr 3; omega)) ?_ | exact Sub.refl _ | refine sub_snap ?_ rfl)) rfl)
      have ha := ha.keep kpWx3
      have hb := hb.keep kpWx3
      have hz := hz.keep kpWx3
      have hVWx3 := hWWx3.sub (Sub.nil _)
      exact X.round ⟨Wx3, 1, zs, r⟩ ⟨by dsimp only; omega, hm.trans (bt_0 a b).symm, by dsimp only; omega, hr, hVWx3, ha, hb, hz⟩ (by first | omega | (dsimp only; omega)) (by repeat (first | exact Sub.nil _ | refine Sub.cons (by first | rfl | (rw [dgs_zero]; rfl) | (rw [List.drop_length]; rfl) | (simp; done) | (congr 2; omega) | (congr 3; omega)) ?_ | exact Sub.refl _ | refine sub_snap ?_ rfl)) (by repeat (first | exact Sub.nil _ | refine Sub.cons (by first | rfl | (rw [dgs_zero]; rfl) | (rw [List.drop_length]; rfl) | (simp; done) | (congr 2; omega) | (congr 3; omega)) ?_ | exact Sub.refl _ | refine sub_snap ?_ rfl))
    · skip
      refine T.skip ?_
      refine X.then ?_
      refine T.seq ?_
      refine T.block ?_
      refine T.seq ?_
      refine T.text [.l, .l, .l, .l, .l] rfl ?_
      refine J.move rfl rfl ?_
      refine J.indexN arr97 agg96 rfl rfl (by decide) (by decide) rfl rfl rfl ?_
      refine J.alloc 8 rfl zero96 [.nilFunc, .nilFunc] rfl rfl (fun g8 hg8 => ?_)
      refine J.assign rfl rfl ?_
      refine J.store 8 rfl rfl rfl rfl ([.func (.func 81) #[] #[], .func (.func 83) #[] #[]] : List Value) rfl sz96 (by first | decide | exact Nat.le_refl _ | exact Nat.le_of_ble_eq_true rfl | (simp [rowN]; done) | (simp [rowN]; omega)) (by first | exact rowN_one _ _ | (simp; done) | (intro u hu; simp at hu; subst hu; rfl) | (intro u hu; simp at hu; rcases hu with rfl | rfl <;> rfl)) (by first | decide | exact Nat.zero_lt_succ _ | simp) trivial ([.func (.func 81) #[] #[], .func (.func 83) #[] #[]] : List Value) rfl ?_
      refine J.end ?_
      refine X.then ?_
      refine T.seq ?_
      refine T.seq ?_
      refine T.text [.l, .l, .l] rfl ?_
      refine J.fieldAddr fld96_0 rfl rfl ?_
      refine J.load1 (k := .l) trivial 8 rfl rfl one93 (by first | rfl | with_reducible exact rowN_get0 _ _ _ (by omega) | with_reducible exact rowN_get1 _ _ _ (by omega) | with_reducible exact rowN_get1s _ _ _ _ (by omega) | exact rowN_get1 _ _ _ (by omega) | exact rowN_get1s _ _ _ _ (by omega) | exact rowN_get0 _ _ _ (by omega)) rfl ?_
      refine J.eqNilF Tryz.underlying93 rfl rfl rfl ?_
      refine J.end ?_
      refine X.then ?_
      refine T.cond_false rfl ?_
      refine T.skip ?_
      refine X.then ?_
      refine T.seq ?_
      refine T.text [.l, .l, .l, .l, .l, .l] rfl ?_
      refine J.fieldAddr fld56_0 rfl rfl ?_
      refine J.loadN (k := .l) trivial 4 rfl rfl agg47 (ac a.who) rfl rfl rfl ?_
      refine J.move rfl rfl ?_
      refine J.build rfl rfl (.agg (Ch.mk a.who 1 0 0 0 [] [] none 0 none 0).cells.toArray) (fun w => by kernel_rfl) ?_
      refine J.alloc 9 rfl zero53 [.int .u8 0, .int .u8 0, .int .u8 0, .int .u8 0, .int .u8 0, .int .u8 0, .int .u8 0, .int .u8 0, .int .u8 0, .int .u8 0, .int .u8 0, .int .u8 0, .int .u8 0, .int .u8 0, .int .u8 0, .int .u8 0, .int .u8 0, .int .u8 0, .int .u8 0, .int .u8 0, .int .i64 0, .int .u64 0, .int .u64 0, .int .u64 0, .int .u64 0, .int .u64 0, .int .u64 0, .int .u64 0, .int .u64 0, .int .u64 0, .int .u64 0, .int .u64 0, .int .u64 0, .slice none 0 0, .slice none 0 0] rfl rfl (fun g9 hg9 => ?_)
      refine J.store 9 rfl rfl rfl rfl ((Ch.mk a.who 1 0 0 0 [] [] none 0 none 0).cells) rfl sz53 (Nat.le_of_ble_eq_true rfl) (by first | exact Ac.cells_one _ | exact Ch.cells_one _) (Nat.zero_lt_succ _) trivial ((Ch.mk a.who 1 0 0 0 [] [] none 0 none 0).cells) rfl ?_
      refine J.end ?_
      refine X.then ?_
      refine T.seq ?_
      refine T.text [.l, .l, .l, .l, .l, .l, .l, .l, .l, .l] rfl ?_
      refine J.fieldAddr fld96_0 rfl rfl ?_
      refine J.load1 (k := .l) trivial 8 rfl rfl one93 (by first | rfl | with_reducible exact rowN_get0 _ _ _ (by omega) | with_reducible exact rowN_get1 _ _ _ (by omega) | with_reducible exact rowN_get1s _ _ _ _ (by omega) | exact rowN_get1 _ _ _ (by omega) | exact rowN_get1s _ _ _ _ (by omega) | exact rowN_get0 _ _ _ (by omega)) rfl ?_
      refine J.callV0 fok81 rfl rfl rfl (fun w hw => Dk.getN w _ a ha.hn (hw.blkCs (k := 4) rfl)) ?_
      refine J.move rfl rfl ?_
      refine J.extract rfl rfl rfl ?_
      refine J.extract rfl rfl rfl ?_
      refine J.fieldAddr fld53_3 rfl rfl ?_
      refine J.store 9 rfl rfl rfl rfl _ rfl sz50 (by first | decide | exact Nat.le_refl _ | exact Nat.le_of_ble_eq_true rfl | (simp [rowN]; done) | (simp [rowN]; omega)) (by first | exact rowN_one _ _ | (simp; done) | (intro u hu; simp at hu; subst hu; rfl) | (intro u hu; simp at hu; rcases hu with rfl | rfl <;> rfl)) (by first | decide | exact Nat.zero_lt_succ _ | simp) trivial _ rfl ?_
      refine J.fieldAddr fld53_5 rfl rfl ?_
      refine J.store 9 rfl rfl rfl rfl [_] rfl sz51 (by first | decide | exact Nat.le_refl _ | exact Nat.le_of_ble_eq_true rfl | (simp [rowN]; done) | (simp [rowN]; omega)) (by first | exact rowN_one _ _ | (simp; done) | (intro u hu; simp at hu; subst hu; rfl) | (intro u hu; simp at hu; rcases hu with rfl | rfl <;> rfl)) (by first | decide | exact Nat.zero_lt_succ _ | simp) trivial _ rfl ?_
      refine J.end ?_
      refine X.then ?_
      refine T.seq ?_
      refine T.text [.l, .l, .l, .l, .l, .l, .l, .l, .l, .l] rfl ?_
      refine J.fieldAddr fld96_0 rfl rfl ?_
      refine J.load1 (k := .l) trivial 8 rfl rfl one93 (by first | rfl | with_reducible exact rowN_get0 _ _ _ (by omega) | with_reducible exact rowN_get1 _ _ _ (by omega) | with_reducible exact rowN_get1s _ _ _ _ (by omega) | exact rowN_get1 _ _ _ (by omega) | exact rowN_get1s _ _ _ _ (by omega) | exact rowN_get0 _ _ _ (by omega)) rfl ?_
      refine J.callV0 fok81 rfl rfl rfl (fun w hw => Dk.getN w _ b hb.hn (hw.blkCs (k := 5) rfl)) ?_
      refine J.move rfl rfl ?_
      refine J.extract rfl rfl rfl ?_
      refine J.extract rfl rfl rfl ?_
      refine J.fieldAddr fld53_4 rfl rfl ?_
      refine J.store 9 rfl rfl rfl rfl _ rfl sz50 (by first | decide | exact Nat.le_refl _ | exact Nat.le_of_ble_eq_true rfl | (simp [rowN]; done) | (simp [rowN]; omega)) (by first | exact rowN_one _ _ | (simp; done) | (intro u hu; simp at hu; subst hu; rfl) | (intro u hu; simp at hu; rcases hu with rfl | rfl <;> rfl)) (by first | decide | exact Nat.zero_lt_succ _ | simp) trivial _ rfl ?_
      refine J.fieldAddr fld53_6 rfl rfl ?_
      refine J.store 9 rfl rfl rfl rfl [_] rfl sz51 (by first | decide | exact Nat.le_refl _ | exact Nat.le_of_ble_eq_true rfl | (simp [rowN]; done) | (simp [rowN]; omega)) (by first | exact rowN_one _ _ | (simp; done) | (intro u hu; simp at hu; subst hu; rfl) | (intro u hu; simp at hu; rcases hu with rfl | rfl <;> rfl)) (by first | decide | exact Nat.zero_lt_succ _ | simp) trivial _ rfl ?_
      refine J.end ?_
      refine X.asE 9 ⟨some g9, 53, (kC a b 1).cells⟩ rfl (by rfl) ?_
      refine X.then ?_
      refine T.seq ?_
      refine T.text [.l, .l, .l] rfl ?_
      refine J.loadN (k := .l) trivial 9 rfl rfl agg53 (kC a b 1).cells rfl rfl rfl ?_
      refine J.call0 (k := .l) trivial fok61 rfl rfl (fun w hw => Da.idle w (kC a b 1) (kC_ok (ha.keep (keep_snap (I := [r.id, some g4, some g5]) (B0 := B) (l1 := []) hV hn (fun g hg => by cases hg) hw (by repeat (first | exact Sub.refl _ | refine sub_snap ?_ rfl)) (Sub.nil _) rfl)) (hb.keep (keep_snap (I := [r.id, some g4, some g5]) (B0 := B) (l1 := []) hV hn (fun g hg => by cases hg) hw (by repeat (first | exact Sub.refl _ | refine sub_snap ?_ rfl)) (Sub.nil _) rfl)) 1).fo.cs (kC_ok (ha.keep (keep_snap (I := [r.id, some g4, some g5]) (B0 := B) (l1 := []) hV hn (fun g hg => by cases hg) hw (by repeat (first | exact Sub.refl _ | refine sub_snap ?_ rfl)) (Sub.nil _) rfl)) (hb.keep (keep_snap (I := [r.id, some g4, some g5]) (B0 := B) (l1 := []) hV hn (fun g hg => by cases hg) hw (by repeat (first | exact Sub.refl _ | refine sub_snap ?_ rfl)) (Sub.nil _) rfl)) 1).fn.cs (kC_ok ha hb 1).dO (kC_ok ha hb 1).dN) ?_
      refine J.not rfl rfl (by rw [← decide_not]) ?_
      refine J.end ?_
      refine X.then ?_
      refine T.cond_dec rfl (fun h4 => ?_) (fun h4 => ?_)
      · have hid := h4
        refine T.text [.l, .l, .l, .l, .l, .l] rfl ?_
        refine J.move rfl rfl ?_
        refine J.loadN (k := .l) trivial 9 rfl rfl agg53 (kC a b 1).cells rfl rfl rfl ?_
        refine J.callB fok58 rfl rfl _ _ [(0, r.ent 53 (rowC zs)), (4, ⟨some g4, 56, a.cells⟩), (5, ⟨some g5, 56, b.cells⟩), (8, ⟨some g8, 96, ([.func (.func 81) #[] #[], .func (.func 83) #[] #[]] : List Value)⟩), (9, ⟨some g9, 53, (kC a b 1).cells⟩)] (by repeat (first | exact Sub.nil _ | refine Sub.cons (by first | rfl | (rw [dgs_zero]; rfl) | (rw [List.drop_length]; rfl) | (simp; done) | (congr 2; omega) | (congr 3; omega)) ?_ | exact Sub.refl _ | refine sub_snap ?_ rfl)) rfl (fun _ _ => Sub.nil _) (fun w hw => Da.own w n (B ++ ids [(0, r.ent 53 (rowC zs)), (4, ⟨some g4, 56, a.cells⟩), (5, ⟨some g5, 56, b.cells⟩), (8, ⟨some g8, 96, ([.func (.func 81) #[] #[], .func (.func 83) #[] #[]] : List Value)⟩), (9, ⟨some g9, 53, (kC a b 1).cells⟩)]) (kC a b 1) (busy_lt (l1 := [(0, r.ent 53 (rowC zs)), (4, ⟨some g4, 56, a.cells⟩), (5, ⟨some g5, 56, b.cells⟩), (8, ⟨some g8, 96, ([.func (.func 81) #[] #[], .func (.func 83) #[] #[]] : List Value)⟩), (9, ⟨some g9, 53, (kC a b 1).cells⟩)]) hB hw (by repeat (first | exact Sub.nil _ | refine Sub.cons (by first | rfl | (rw [dgs_zero]; rfl) | (rw [List.drop_length]; rfl) | (simp; done) | (congr 2; omega) | (congr 3; omega)) ?_ | exact Sub.refl _ | refine sub_snap ?_ rfl)) rfl) ((kC_ok ha hb 1).keep (keep_snap (I := [r.id, some g4, some g5]) (B0 := B) (l1 := [(0, r.ent 53 (rowC zs)), (4, ⟨some g4, 56, a.cells⟩), (5, ⟨some g5, 56, b.cells⟩), (8, ⟨some g8, 96, ([.func (.func 81) #[] #[], .func (.func 83) #[] #[]] : List Value)⟩), (9, ⟨some g9, 53, (kC a b 1).cells⟩)]) hV hn (fun g hg => by cases hg) hw (by repeat (first | exact Sub.refl _ | refine sub_snap ?_ rfl)) (by repeat (first | exact Sub.nil _ | refine Sub.cons (by first | rfl | (rw [dgs_zero]; rfl) | (rw [List.drop_length]; rfl) | (simp; done) | (congr 2; omega) | (congr 3; omega)) ?_ | exact Sub.refl _ | refine sub_snap ?_ rfl)) rfl))) (fun i43 W43 hP43 hW43 => ?_)
        obtain ⟨hv43, hc43⟩ := hP43
        have kpW43 := (keep_snap (I := [r.id, some g4, some g5]) (B0 := B) (l1 := [(0, r.ent 53 (rowC zs)), (4, ⟨some g4, 56, a.cells⟩), (5, ⟨some g5, 56, b.cells⟩), (8, ⟨some g8, 96, ([.func (.func 81) #[] #[], .func (.func 83) #[] #[]] : List Value)⟩), (9, ⟨some g9, 53, (kC a b 1).cells⟩)]) hV hn (fun g hg => by cases hg) hW43 (by repeat (first | exact Sub.refl _ | refine sub_snap ?_ rfl)) (by repeat (first | exact Sub.nil _ | refine Sub.cons (by first | rfl | (rw [dgs_zero]; rfl) | (rw [List.drop_length]; rfl) | (simp; done) | (congr 2; omega) | (congr 3; omega)) ?_ | exact Sub.refl _ | refine sub_snap ?_ rfl)) rfl)
        have ha := ha.keep kpW43
        have hb := hb.keep kpW43
        have hz := hz.keep kpW43
        have hVW43 := hW43.sub (Sub.nil _)
        refine J.lit1 44 rfl Tryz.underlying25 el53 (by decide) rfl (i43.cells) rfl rfl rfl (fun g44 hg44 => ?_)
        refine J.append 0 rfl Tryz.underlying25 el53 rfl hr (rowC_length zs) rfl rfl rfl (fun w hw => (hw.blkCs (k := 44) rfl)) (Ch.cells_one _) (by omega) (by unfold maxLen; omega) rfl (zs ++ [i43]).length (by rw [List.length_append]; rfl) (rowC (zs ++ [i43])) (rowC_snoc _ _).symm (fun r45 hr45 => ?_)
        refine J.assign rfl rfl ?_
        refine J.end ?_
        refine X.inBlock (X.then ?_)
        refine T.text [.l, .l] rfl ?_
        refine J.add rfl rfl rfl (by first | exact add_nat _ 1 (by omega) | exact i64_ok _ (by omega) | exact rfl) ?_
        refine J.as 46 (.int .i64 ((2 : Nat) : Int)) rfl (by rfl) ?_
        refine J.move rfl rfl ?_
        refine J.end ?_
        refine X.snap [(0, r45.ent 53 (rowC (zs ++ [i43]))), (4, ⟨some g4, 56, a.cells⟩), (5, ⟨some g5, 56, b.cells⟩)] (by repeat (first | exact Sub.nil _ | refine Sub.cons (by first | rfl | (rw [dgs_zero]; rfl) | (rw [List.drop_length]; rfl) | (simp; done) | (congr 2; omega) | (congr 3; omega)) ?_ | exact Sub.refl _ | refine sub_snap ?_ rfl)) rfl (fun Wx5 hWWx5 => ?_)
        have kpWx5 := (keep_snap (I := [r.id, some g4, some g5, some g8, some g9]) (B0 := B) (l1 := [(0, r45.ent 53 (rowC (zs ++ [i43]))), (4, ⟨some g4, 56, a.cells⟩), (5, ⟨some g5, 56, b.cells⟩)]) hVW43 hn (fun g hg => by cases hg) hWWx5 (by repeat (first | exact Sub.refl _ | refine sub_snap ?_ rfl)) (by repeat (first | exact Sub.nil _ | refine Sub.cons (by first | rfl | (rw [dgs_zero]; rfl) | (rw [List.drop_length]; rfl) | (simp; done) | (congr 2; omega) | (congr 3; omega)) ?_ | exact Sub.refl _ | refine sub_snap ?_ rfl)) rfl)
        have ha := ha.keep kpWx5
        have hb := hb.keep kpWx5
        have hz := hz.keep kpWx5
        have hc43 := hc43.keep kpWx5
        have hVWx5 := hWWx5.sub (Sub.nil _)
        exact X.round ⟨Wx5, 2, (zs ++ [i43]), r45⟩ ⟨by dsimp only; omega, by rw [snoc_v, hv43, hm]; exact (bt_yes hid).symm, by dsimp only; rw [List.length_append, List.length_singleton]; omega, hr45, hVWx5, ha, hb, hz.snoc hc43⟩ (by first | omega | (dsimp only; omega)) (by repeat (first | exact Sub.nil _ | refine Sub.cons (by first | rfl | (rw [dgs_zero]; rfl) | (rw [List.drop_length]; rfl) | (simp; done) | (congr 2; omega) | (congr 3; omega)) ?_ | exact Sub.refl _ | refine sub_snap ?_ rfl)) (by repeat (first | exact Sub.nil _ | refine Sub.cons (by first | rfl | (rw [dgs_zero]; rfl) | (rw [List.drop_length]; rfl) | (simp; done) | (congr 2; omega) | (congr 3; omega)) ?_ | exact Sub.refl _ | refine sub_snap ?_ rfl))
      · have hid := Decidable.not_not.1 h4
        refine T.skip ?_
        refine X.inBlock (X.then ?_)
        refine T.text [.l, .l] rfl ?_
        refine J.add rfl rfl rfl (by first | exact add_nat _ 1 (by omega) | exact i64_ok _ (by omega) | exact rfl) ?_
        refine J.as 46 (.int .i64 ((2 : Nat) : Int)) rfl (by rfl) ?_
        refine J.move rfl rfl ?_
        refine J.end ?_
        refine X.snap [(0, r.ent 53 (rowC zs)), (4, ⟨some g4, 56, a.cells⟩), (5, ⟨some g5, 56, b.cells⟩)] (by repeat (first | exact Sub.nil _ | refine Sub.cons (by first | rfl | (rw [dgs_zero]; rfl) | (rw [List.drop_length]; rfl) | (simp; done) | (congr 2; omega) | (congr 3; omega)) ?_ | exact Sub.refl _ | refine sub_snap ?_ rfl)) rfl (fun Wx6 hWWx6 => ?_)
        have kpWx6 := (keep_snap (I := [r.id, some g4, some g5]) (B0 := B) (l1 := [(0, r.ent 53 (rowC zs)), (4, ⟨some g4, 56, a.cells⟩), (5, ⟨some g5, 56, b.cells⟩)]) hV hn (fun g hg => by cases hg) hWWx6 (by repeat (first | exact Sub.refl _ | refine sub_snap ?_ rfl)) (by repeat (first | exact Sub.nil _ | refine Sub.cons (by first | rfl | (rw [dgs_zero]; rfl) | (rw [List.drop_length]; rfl) | (simp; done) | (congr 2; omega) | (congr 3; omega)) ?_ | exact Sub.refl _ | refine sub_snap ?_ rfl)) rfl)
        have ha := ha.keep kpWx6
        have hb := hb.keep kpWx6
        have hz := hz.keep kpWx6
        have hVWx6 := hWWx6.sub (Sub.nil _)
        exact X.round ⟨Wx6, 2, zs, r⟩ ⟨by dsimp only; omega, hm.trans (bt_no hid).symm, by dsimp only; omega, hr, hVWx6, ha, hb, hz⟩ (by first | omega | (dsimp only; omega)) (by repeat (first | exact Sub.nil _ | refine Sub.cons (by first | rfl | (rw [dgs_zero]; rfl) | (rw [List.drop_length]; rfl) | (simp; done) | (congr 2; omega) | (congr 3; omega)) ?_ | exact Sub.refl _ | refine sub_snap ?_ rfl)) (by repeat (first | exact Sub.nil _ | refine Sub.cons (by first | rfl | (rw [dgs_zero]; rfl) | (rw [List.drop_length]; rfl) | (simp; done) | (congr 2; omega) | (congr 3; omega)) ?_ | exact Sub.refl _ | refine sub_snap ?_ rfl))
    · skip
      refine T.skip ?_
      refine X.then ?_
      refine T.seq ?_
      refine T.block ?_
      refine T.seq ?_
      refine T.text [.l, .l, .l, .l, .l] rfl ?_
      refine J.move rfl rfl ?_
      refine J.indexN arr97 agg96 rfl rfl (by decide) (by decide) rfl rfl rfl ?_
      refine J.alloc 8 rfl zero96 [.nilFunc, .nilFunc] rfl rfl (fun g8 hg8 => ?_)
      refine J.assign rfl rfl ?_
      refine J.store 8 rfl rfl rfl rfl ([.func (.func 85) #[] #[], .func (.func 86) #[] #[]] : List Value) rfl sz96 (by first | decide | exact Nat.le_refl _ | exact Nat.le_of_ble_eq_true rfl | (simp [rowN]; done) | (simp [rowN]; omega)) (by first | exact rowN_one _ _ | (simp; done) | (intro u hu; simp at hu; subst hu; rfl) | (intro u hu; simp at hu; rcases hu with rfl | rfl <;> rfl)) (by first | decide | exact Nat.zero_lt_succ _ | simp) trivial ([.func (.func 85) #[] #[], .func (.func 86) #[] #[]] : List Value) rfl ?_
      refine J.end ?_
      refine X.then ?_
      refine T.seq ?_
      refine T.seq ?_
      refine T.text [.l, .l, .l] rfl ?_
      refine J.fieldAddr fld96_0 rfl rfl ?_
      refine J.load1 (k := .l) trivial 8 rfl rfl one93 (by first | rfl | with_reducible exact rowN_get0 _ _ _ (by omega) | with_reducible exact rowN_get1 _ _ _ (by omega) | with_reducible exact rowN_get1s _ _ _ _ (by omega) | exact rowN_get1 _ _ _ (by omega) | exact rowN_get1s _ _ _ _ (by omega) | exact rowN_get0 _ _ _ (by omega)) rfl ?_
      refine J.eqNilF Tryz.underlying93 rfl rfl rfl ?_
      refine J.end ?_
      refine X.then ?_
      refine T.cond_false rfl ?_
      refine T.skip ?_
      refine X.then ?_
      refine T.seq ?_
      refine T.text [.l, .l, .l, .l, .l, .l] rfl ?_
      refine J.fieldAddr fld56_0 rfl rfl ?_
      refine J.loadN (k := .l) trivial 4 rfl rfl agg47 (ac a.who) rfl rfl rfl ?_
      refine J.move rfl rfl ?_
      refine J.build rfl rfl (.agg (Ch.mk a.who 2 0 0 0 [] [] none 0 none 0).cells.toArray) (fun w => by kernel_rfl) ?_
      refine J.alloc 9 rfl zero53 [.int .u8 0, .int .u8 0, .int .u8 0, .int .u8 0, .int .u8 0, .int .u8 0, .int .u8 0, .int .u8 0, .int .u8 0, .int .u8 0, .int .u8 0, .int .u8 0, .int .u8 0, .int .u8 0, .int .u8 0, .int .u8 0, .int .u8 0, .int .u8 0, .int .u8 0, .int .u8 0, .int .i64 0, .int .u64 0, .int .u64 0, .int .u64 0, .int .u64 0, .int .u64 0, .int .u64 0, .int .u64 0, .int .u64 0, .int .u64 0, .int .u64 0, .int .u64 0, .int .u64 0, .slice none 0 0, .slice none 0 0] rfl rfl (fun g9 hg9 => ?_)
      refine J.store 9 rfl rfl rfl rfl ((Ch.mk a.who 2 0 0 0 [] [] none 0 none 0).cells) rfl sz53 (Nat.le_of_ble_eq_true rfl) (by first | exact Ac.cells_one _ | exact Ch.cells_one _) (Nat.zero_lt_succ _) trivial ((Ch.mk a.who 2 0 0 0 [] [] none 0 none 0).cells) rfl ?_
      refine J.end ?_
      refine X.then ?_
      refine T.seq ?_
      refine T.text [.l, .l, .l, .l, .l, .l, .l, .l, .l, .l] rfl ?_
      refine J.fieldAddr fld96_0 rfl rfl ?_
      refine J.load1 (k := .l) trivial 8 rfl rfl one93 (by first | rfl | with_reducible exact rowN_get0 _ _ _ (by omega) | with_reducible exact rowN_get1 _ _ _ (by omega) | with_reducible exact rowN_get1s _ _ _ _ (by omega) | exact rowN_get1 _ _ _ (by omega) | exact rowN_get1s _ _ _ _ (by omega) | exact rowN_get0 _ _ _ (by omega)) rfl ?_
      refine J.callV0 fok85 rfl rfl rfl (fun w hw => Dk.getB w _ a ha.hn (hw.blkCs (k := 4) rfl)) ?_
      refine J.move rfl rfl ?_
      refine J.extract rfl rfl rfl ?_
      refine J.extract rfl rfl rfl ?_
      refine J.fieldAddr fld53_3 rfl rfl ?_
      refine J.store 9 rfl rfl rfl rfl _ rfl sz50 (by first | decide | exact Nat.le_refl _ | exact Nat.le_of_ble_eq_true rfl | (simp [rowN]; done) | (simp [rowN]; omega)) (by first | exact rowN_one _ _ | (simp; done) | (intro u hu; simp at hu; subst hu; rfl) | (intro u hu; simp at hu; rcases hu with rfl | rfl <;> rfl)) (by first | decide | exact Nat.zero_lt_succ _ | simp) trivial _ rfl ?_
      refine J.fieldAddr fld53_5 rfl rfl ?_
      refine J.store 9 rfl rfl rfl rfl [_] rfl sz51 (by first | decide | exact Nat.le_refl _ | exact Nat.le_of_ble_eq_true rfl | (simp [rowN]; done) | (simp [rowN]; omega)) (by first | exact rowN_one _ _ | (simp; done) | (intro u hu; simp at hu; subst hu; rfl) | (intro u hu; simp at hu; rcases hu with rfl | rfl <;> rfl)) (by first | decide | exact Nat.zero_lt_succ _ | simp) trivial _ rfl ?_
      refine J.end ?_
      refine X.then ?_
      refine T.seq ?_
      refine T.text [.l, .l, .l, .l, .l, .l, .l, .l, .l, .l] rfl ?_
      refine J.fieldAddr fld96_0 rfl rfl ?_
      refine J.load1 (k := .l) trivial 8 rfl rfl one93 (by first | rfl | with_reducible exact rowN_get0 _ _ _ (by omega) | with_reducible exact rowN_get1 _ _ _ (by omega) | with_reducible exact rowN_get1s _ _ _ _ (by omega) | exact rowN_get1 _ _ _ (by omega) | exact rowN_get1s _ _ _ _ (by omega) | exact rowN_get0 _ _ _ (by omega)) rfl ?_
      refine J.callV0 fok85 rfl rfl rfl (fun w hw => Dk.getB w _ b hb.hn (hw.blkCs (k := 5) rfl)) ?_
      refine J.move rfl rfl ?_
      refine J.extract rfl rfl rfl ?_
      refine J.extract rfl rfl rfl ?_
      refine J.fieldAddr fld53_4 rfl rfl ?_
      refine J.store 9 rfl rfl rfl rfl _ rfl sz50 (by first | decide | exact Nat.le_refl _ | exact Nat.le_of_ble_eq_true rfl | (simp [rowN]; done) | (simp [rowN]; omega)) (by first | exact rowN_one _ _ | (simp; done) | (intro u hu; simp at hu; subst hu; rfl) | (intro u hu; simp at hu; rcases hu with rfl | rfl <;> rfl)) (by first | decide | exact Nat.zero_lt_succ _ | simp) trivial _ rfl ?_
      refine J.fieldAddr fld53_6 rfl rfl ?_
      refine J.store 9 rfl rfl rfl rfl [_] rfl sz51 (by first | decide | exact Nat.le_refl _ | exact Nat.le_of_ble_eq_true rfl | (simp [rowN]; done) | (simp [rowN]; omega)) (by first | exact rowN_one _ _ | (simp; done) | (intro u hu; simp at hu; subst hu; rfl) | (intro u hu; simp at hu; rcases hu with rfl | rfl <;> rfl)) (by first | decide | exact Nat.zero_lt_succ _ | simp) trivial _ rfl ?_
      refine J.end ?_
      refine X.asE 9 ⟨some g9, 53, (kC a b 2).cells⟩ rfl (by rfl) ?_
      refine X.then ?_
      refine T.seq ?_
      refine T.text [.l, .l, .l] rfl ?_
      refine J.loadN (k := .l) trivial 9 rfl rfl agg53 (kC a b 2).cells rfl rfl rfl ?_
      refine J.call0 (k := .l) trivial fok61 rfl rfl (fun w hw => Da.idle w (kC a b 2) (kC_ok (ha.keep (keep_snap (I := [r.id, some g4, some g5]) (B0 := B) (l1 := []) hV hn (fun g hg => by cases hg) hw (by repeat (first | exact Sub.refl _ | refine sub_snap ?_ rfl)) (Sub.nil _) rfl)) (hb.keep (keep_snap (I := [r.id, some g4, some g5]) (B0 := B) (l1 := []) hV hn (fun g hg => by cases hg) hw (by repeat (first | exact Sub.refl _ | refine sub_snap ?_ rfl)) (Sub.nil _) rfl)) 2).fo.cs (kC_ok (ha.keep (keep_snap (I := [r.id, some g4, some g5]) (B0 := B) (l1 := []) hV hn (fun g hg => by cases hg) hw (by repeat (first | exact Sub.refl _ | refine sub_snap ?_ rfl)) (Sub.nil _) rfl)) (hb.keep (keep_snap (I := [r.id, some g4, some g5]) (B0 := B) (l1 := []) hV hn (fun g hg => by cases hg) hw (by repeat (first | exact Sub.refl _ | refine sub_snap ?_ rfl)) (Sub.nil _) rfl)) 2).fn.cs (kC_ok ha hb 2).dO (kC_ok ha hb 2).dN) ?_
      refine J.not rfl rfl (by rw [← decide_not]) ?_
      refine J.end ?_
      refine X.then ?_
      refine T.cond_dec rfl (fun h7 => ?_) (fun h7 => ?_)
      · have hid := h7
        refine T.text [.l, .l, .l, .l, .l, .l] rfl ?_
        refine J.move rfl rfl ?_
        refine J.loadN (k := .l) trivial 9 rfl rfl agg53 (kC a b 2).cells rfl rfl rfl ?_
        refine J.callB fok58 rfl rfl _ _ [(0, r.ent 53 (rowC zs)), (4, ⟨some g4, 56, a.cells⟩), (5, ⟨some g5, 56, b.cells⟩), (8, ⟨some g8, 96, ([.func (.func 85) #[] #[], .func (.func 86) #[] #[]] : List Value)⟩), (9, ⟨some g9, 53, (kC a b 2).cells⟩)] (by repeat (first | exact Sub.nil _ | refine Sub.cons (by first | rfl | (rw [dgs_zero]; rfl) | (rw [List.drop_length]; rfl) | (simp; done) | (congr 2; omega) | (congr 3; omega)) ?_ | exact Sub.refl _ | refine sub_snap ?_ rfl)) rfl (fun _ _ => Sub.nil _) (fun w hw => Da.own w n (B ++ ids [(0, r.ent 53 (rowC zs)), (4, ⟨some g4, 56, a.cells⟩), (5, ⟨some g5, 56, b.cells⟩), (8, ⟨some g8, 96, ([.func (.func 85) #[] #[], .func (.func 86) #[] #[]] : List Value)⟩), (9, ⟨some g9, 53, (kC a b 2).cells⟩)]) (kC a b 2) (busy_lt (l1 := [(0, r.ent 53 (rowC zs)), (4, ⟨some g4, 56, a.cells⟩), (5, ⟨some g5, 56, b.cells⟩), (8, ⟨some g8, 96, ([.func (.func 85) #[] #[], .func (.func 86) #[] #[]] : List Value)⟩), (9, ⟨some g9, 53, (kC a b 2).cells⟩)]) hB hw (by repeat (first | exact Sub.nil _ | refine Sub.cons (by first | rfl | (rw [dgs_zero]; rfl) | (rw [List.drop_length]; rfl) | (simp; done) | (congr 2; omega) | (congr 3; omega)) ?_ | exact Sub.refl _ | refine sub_snap ?_ rfl)) rfl) ((kC_ok ha hb 2).keep (keep_snap (I := [r.id, some g4, some g5]) (B0 := B) (l1 := [(0, r.ent 53 (rowC zs)), (4, ⟨some g4, 56, a.cells⟩), (5, ⟨some g5, 56, b.cells⟩), (8, ⟨some g8, 96, ([.func (.func 85) #[] #[], .func (.func 86) #[] #[]] : List Value)⟩), (9, ⟨some g9, 53, (kC a b 2).cells⟩)]) hV hn (fun g hg => by cases hg) hw (by repeat (first | exact Sub.refl _ | refine sub_snap ?_ rfl)) (by repeat (first | exact Sub.nil _ | refine Sub.cons (by first | rfl | (rw [dgs_zero]; rfl) | (rw [List.drop_length]; rfl) | (simp; done) | (congr 2; omega) | (congr 3; omega)) ?_ | exact Sub.refl _ | refine sub_snap ?_ rfl)) rfl))) (fun i43 W43 hP43 hW43 => ?_)
        obtain ⟨hv43, hc43⟩ := hP43
        have kpW43 := (keep_snap (I := [r.id, some g4, some g5]) (B0 := B) (l1 := [(0, r.ent 53 (rowC zs)), (4, ⟨some g4, 56, a.cells⟩), (5, ⟨some g5, 56, b.cells⟩), (8, ⟨some g8, 96, ([.func (.func 85) #[] #[], .func (.func 86) #[] #[]] : List Value)⟩), (9, ⟨some g9, 53, (kC a b 2).cells⟩)]) hV hn (fun g hg => by cases hg) hW43 (by repeat (first | exact Sub.refl _ | refine sub_snap ?_ rfl)) (by repeat (first | exact Sub.nil _ | refine Sub.cons (by first | rfl | (rw [dgs_zero]; rfl) | (rw [List.drop_length]; rfl) | (simp; done) | (congr 2; omega) | (congr 3; omega)) ?_ | exact Sub.refl _ | refine sub_snap ?_ rfl)) rfl)
        have ha := ha.keep kpW43
        have hb := hb.keep kpW43
        have hz := hz.keep kpW43
        have hVW43 := hW43.sub (Sub.nil _)
        refine J.lit1 44 rfl Tryz.underlying25 el53 (by decide) rfl (i43.cells) rfl rfl rfl (fun g44 hg44 => ?_)
        refine J.append 0 rfl Tryz.underlying25 el53 rfl hr (rowC_length zs) rfl rfl rfl (fun w hw => (hw.blkCs (k := 44) rfl)) (Ch.cells_one _) (by omega) (by unfold maxLen; omega) rfl (zs ++ [i43]).length (by rw [List.length_append]; rfl) (rowC (zs ++ [i43])) (rowC_snoc _ _).symm (fun r45 hr45 => ?_)
        refine J.assign rfl rfl ?_
        refine J.end ?_
        refine X.inBlock (X.then ?_)
        refine T.text [.l, .l] rfl ?_
        refine J.add rfl rfl rfl (by first | exact add_nat _ 1 (by omega) | exact i64_ok _ (by omega) | exact rfl) ?_
        refine J.as 46 (.int .i64 ((3 : Nat) : Int)) rfl (by rfl) ?_
        refine J.move rfl rfl ?_
        refine J.end ?_
        refine X.snap [(0, r45.ent 53 (rowC (zs ++ [i43]))), (4, ⟨some g4, 56, a.cells⟩), (5, ⟨some g5, 56, b.cells⟩)] (by repeat (first | exact Sub.nil _ | refine Sub.cons (by first | rfl | (rw [dgs_zero]; rfl) | (rw [List.drop_length]; rfl) | (simp; done) | (congr 2; omega) | (congr 3; omega)) ?_ | exact Sub.refl _ | refine sub_snap ?_ rfl)) rfl (fun Wx8 hWWx8 => ?_)
        have kpWx8 := (keep_snap (I := [r.id, some g4, some g5, some g8, some g9]) (B0 := B) (l1 := [(0, r45.ent 53 (rowC (zs ++ [i43]))), (4, ⟨some g4, 56, a.cells⟩), (5, ⟨some g5, 56, b.cells⟩)]) hVW43 hn (fun g hg => by cases hg) hWWx8 (by repeat (first | exact Sub.refl _ | refine sub_snap ?_ rfl)) (by repeat (first | exact Sub.nil _ | refine Sub.cons (by first | rfl | (rw [dgs_zero]; rfl) | (rw [List.drop_length]; rfl) | (simp; done) | (congr 2; omega) | (congr 3; omega)) ?_ | exact Sub.refl _ | refine sub_snap ?_ rfl)) rfl)
        have ha := ha.keep kpWx8
        have hb := hb.keep kpWx8
        have hz := hz.keep kpWx8
        have hc43 := hc43.keep kpWx8
        have hVWx8 := hWWx8.sub (Sub.nil _)
        exact X.round ⟨Wx8, 3, (zs ++ [i43]), r45⟩ ⟨by dsimp only; omega, by rw [snoc_v, hv43, hm]; exact (bt_yes hid).symm, by dsimp only; rw [List.length_append, List.length_singleton]; omega, hr45, hVWx8, ha, hb, hz.snoc hc43⟩ (by first | omega | (dsimp only; omega)) (by repeat (first | exact Sub.nil _ | refine Sub.cons (by first | rfl | (rw [dgs_zero]; rfl) | (rw [List.drop_length]; rfl) | (simp; done) | (congr 2; omega) | (congr 3; omega)) ?_ | exact Sub.refl _ | refine sub_snap ?_ rfl)) (by repeat (first | exact Sub.nil _ | refine Sub.cons (by first | rfl | (rw [dgs_zero]; rfl) | (rw [List.drop_length]; rfl) | (simp; done) | (congr 2; omega) | (congr 3; omega)) ?_ | exact Sub.refl _ | refine sub_snap ?_ rfl))
      · have hid := Decidable.not_not.1 h7
        refine T.skip ?_
        refine X.inBlock (X.then ?_)
        refine T.text [.l, .l] rfl ?_
        refine J.add rfl rfl rfl (by first | exact add_nat _ 1 (by omega) | exact i64_ok _ (by omega) | exact rfl) ?_
        refine J.as 46 (.int .i64 ((3 : Nat) : Int)) rfl (by rfl) ?_
        refine J.move rfl rfl ?_
        refine J.end ?_
        refine X.snap [(0, r.ent 53 (rowC zs)), (4, ⟨some g4, 56, a.cells⟩), (5, ⟨some g5, 56, b.cells⟩)] (by repeat (first | exact Sub.nil _ | refine Sub.cons (by first | rfl | (rw [dgs_zero]; rfl) | (rw [List.drop_length]; rfl) | (simp; done) | (congr 2; omega) | (congr 3; omega)) ?_ | exact Sub.refl _ | refine sub_snap ?_ rfl)) rfl (fun Wx9 hWWx9 => ?_)
        have kpWx9 := (keep_snap (I := [r.id, some g4, some g5]) (B0 := B) (l1 := [(0, r.ent 53 (rowC zs)), (4, ⟨some g4, 56, a.cells⟩), (5, ⟨some g5, 56, b.cells⟩)]) hV hn (fun g hg => by cases hg) hWWx9 (by repeat (first | exact Sub.refl _ | refine sub_snap ?_ rfl)) (by repeat (first | exact Sub.nil _ | refine Sub.cons (by first | rfl | (rw [dgs_zero]; rfl) | (rw [List.drop_length]; rfl) | (simp; done) | (congr 2; omega) | (congr 3; omega)) ?_ | exact Sub.refl _ | refine sub_snap ?_ rfl)) rfl)
        have ha := ha.keep kpWx9
        have hb := hb.keep kpWx9
        have hz := hz.keep kpWx9
        have hVWx9 := hWWx9.sub (Sub.nil _)
        exact X.round ⟨Wx9, 3, zs, r⟩ ⟨by dsimp only; omega, hm.trans (bt_no hid).symm, by dsimp only; omega, hr, hVWx9, ha, hb, hz⟩ (by first | omega | (dsimp only; omega)) (by repeat (first | exact Sub.nil _ | refine Sub.cons (by first | rfl | (rw [dgs_zero]; rfl) | (rw [List.drop_length]; rfl) | (simp; done) | (congr 2; omega) | (congr 3; omega)) ?_ | exact Sub.refl _ | refine sub_snap ?_ rfl)) (by repeat (first | exact Sub.nil _ | refine Sub.cons (by first | rfl | (rw [dgs_zero]; rfl) | (rw [List.drop_length]; rfl) | (simp; done) | (congr 2; omega) | (congr 3; omega)) ?_ | exact Sub.refl _ | refine sub_snap ?_ rfl))
    · skip
      refine T.skip ?_
      refine X.then ?_
      refine T.seq ?_
      refine T.block ?_
      refine T.seq ?_
      refine T.text [.l, .l, .l, .l, .l] rfl ?_
      refine J.move rfl rfl ?_
      refine J.indexN arr97 agg96 rfl rfl (by decide) (by decide) rfl rfl rfl ?_
      refine J.alloc 8 rfl zero96 [.nilFunc, .nilFunc] rfl rfl (fun g8 hg8 => ?_)
      refine J.assign rfl rfl ?_
      refine J.store 8 rfl rfl rfl rfl ([.func (.func 87) #[] #[], .func (.func 88) #[] #[]] : List Value) rfl sz96 (by first | decide | exact Nat.le_refl _ | exact Nat.le_of_ble_eq_true rfl | (simp [rowN]; done) | (simp [rowN]; omega)) (by first | exact rowN_one _ _ | (simp; done) | (intro u hu; simp at hu; subst hu; rfl) | (intro u hu; simp at hu; rcases hu with rfl | rfl <;> rfl)) (by first | decide | exact Nat.zero_lt_succ _ | simp) trivial ([.func (.func 87) #[] #[], .func (.func 88) #[] #[]] : List Value) rfl ?_
      refine J.end ?_
      refine X.then ?_
      refine T.seq ?_
      refine T.seq ?_
      refine T.text [.l, .l, .l] rfl ?_
      refine J.fieldAddr fld96_0 rfl rfl ?_
      refine J.load1 (k := .l) trivial 8 rfl rfl one93 (by first | rfl | with_reducible exact rowN_get0 _ _ _ (by omega) | with_reducible exact rowN_get1 _ _ _ (by omega) | with_reducible exact rowN_get1s _ _ _ _ (by omega) | exact rowN_get1 _ _ _ (by omega) | exact rowN_get1s _ _ _ _ (by omega) | exact rowN_get0 _ _ _ (by omega)) rfl ?_
      refine J.eqNilF Tryz.underlying93 rfl rfl rfl ?_
      refine J.end ?_
      refine X.then ?_
      refine T.cond_false rfl ?_
      refine T.skip ?_
      refine X.then ?_
      refine T.seq ?_
      refine T.text [.l, .l, .l, .l, .l, .l] rfl ?_
      refine J.fieldAddr fld56_0 rfl rfl ?_
      refine J.loadN (k := .l) trivial 4 rfl rfl agg47 (ac a.who) rfl rfl rfl ?_
      refine J.move rfl rfl ?_
      refine J.build rfl rfl (.agg (Ch.mk a.who 3 0 0 0 [] [] none 0 none 0).cells.toArray) (fun w => by kernel_rfl) ?_
      refine J.alloc 9 rfl zero53 [.int .u8 0, .int .u8 0, .int .u8 0, .int .u8 0, .int .u8 0, .int .u8 0, .int .u8 0, .int .u8 0, .int .u8 0, .int .u8 0, .int .u8 0, .int .u8 0, .int .u8 0, .int .u8 0, .int .u8 0, .int .u8 0, .int .u8 0, .int .u8 0, .int .u8 0, .int .u8 0, .int .i64 0, .int .u64 0, .int .u64 0, .int .u64 0, .int .u64 0, .int .u64 0, .int .u64 0, .int .u64 0, .int .u64 0, .int .u64 0, .int .u64 0, .int .u64 0, .int .u64 0, .slice none 0 0, .slice none 0 0] rfl rfl (fun g9 hg9 => ?_)
      refine J.store 9 rfl rfl rfl rfl ((Ch.mk a.who 3 0 0 0 [] [] none 0 none 0).cells) rfl sz53 (Nat.le_of_ble_eq_true rfl) (by first | exact Ac.cells_one _ | exact Ch.cells_one _) (Nat.zero_lt_succ _) trivial ((Ch.mk a.who 3 0 0 0 [] [] none 0 none 0).cells) rfl ?_
      refine J.end ?_
      refine X.then ?_
      refine T.seq ?_
      refine T.text [.l, .l, .l, .l, .l, .l, .l, .l, .l, .l] rfl ?_
      refine J.fieldAddr fld96_0 rfl rfl ?_
      refine J.load1 (k := .l) trivial 8 rfl rfl one93 (by first | rfl | with_reducible exact rowN_get0 _ _ _ (by omega) | with_reducible exact rowN_get1 _ _ _ (by omega) | with_reducible exact rowN_get1s _ _ _ _ (by omega) | exact rowN_get1 _ _ _ (by omega) | exact rowN_get1s _ _ _ _ (by omega) | exact rowN_get0 _ _ _ (by omega)) rfl ?_
      refine J.callV0 fok87 rfl rfl rfl (fun w hw => Dk.getC w _ a ha.hn (hw.blkCs (k := 4) rfl)) ?_
      refine J.move rfl rfl ?_
      refine J.extract rfl rfl rfl ?_
      refine J.extract rfl rfl rfl ?_
      refine J.fieldAddr fld53_3 rfl rfl ?_
      refine J.store 9 rfl rfl rfl rfl _ rfl sz50 (by first | decide | exact Nat.le_refl _ | exact Nat.le_of_ble_eq_true rfl | (simp [rowN]; done) | (simp [rowN]; omega)) (by first | exact rowN_one _ _ | (simp; done) | (intro u hu; simp at hu; subst hu; rfl) | (intro u hu; simp at hu; rcases hu with rfl | rfl <;> rfl)) (by first | decide | exact Nat.zero_lt_succ _ | simp) trivial _ rfl ?_
      refine J.fieldAddr fld53_5 rfl rfl ?_
      refine J.store 9 rfl rfl rfl rfl [_] rfl sz51 (by first | decide | exact Nat.le_refl _ | exact Nat.le_of_ble_eq_true rfl | (simp [rowN]; done) | (simp [rowN]; omega)) (by first | exact rowN_one _ _ | (simp; done) | (intro u hu; simp at hu; subst hu; rfl) | (intro u hu; simp at hu; rcases hu with rfl | rfl <;> rfl)) (by first | decide | exact Nat.zero_lt_succ _ | simp) trivial _ rfl ?_
      refine J.end ?_
      refine X.then ?_
      refine T.seq ?_
      refine T.text [.l, .l, .l, .l, .l, .l, .l, .l, .l, .l] rfl ?_
      refine J.fieldAddr fld96_0 rfl rfl ?_
      refine J.load1 (k := .l) trivial 8 rfl rfl one93 (by first | rfl | with_reducible exact rowN_get0 _ _ _ (by omega) | with_reducible exact rowN_get1 _ _ _ (by omega) | with_reducible exact rowN_get1s _ _ _ _ (by omega) | exact rowN_get1 _ _ _ (by omega) | exact rowN_get1s _ _ _ _ (by omega) | exact rowN_get0 _ _ _ (by omega)) rfl ?_
      refine J.callV0 fok87 rfl rfl rfl (fun w hw => Dk.getC w _ b hb.hn (hw.blkCs (k := 5) rfl)) ?_
      refine J.move rfl rfl ?_
      refine J.extract rfl rfl rfl ?_
      refine J.extract rfl rfl rfl ?_
      refine J.fieldAddr fld53_4 rfl rfl ?_
      refine J.store 9 rfl rfl rfl rfl _ rfl sz50 (by first | decide | exact Nat.le_refl _ | exact Nat.le_of_ble_eq_true rfl | (simp [rowN]; done) | (simp [rowN]; omega)) (by first | exact rowN_one _ _ | (simp; done) | (intro u hu; simp at hu; subst hu; rfl) | (intro u hu; simp at hu; rcases hu with rfl | rfl <;> rfl)) (by first | decide | exact Nat.zero_lt_succ _ | simp) trivial _ rfl ?_
      refine J.fieldAddr fld53_6 rfl rfl ?_
      refine J.store 9 rfl rfl rfl rfl [_] rfl sz51 (by first | decide | exact Nat.le_refl _ | exact Nat.le_of_ble_eq_true rfl | (simp [rowN]; done) | (simp [rowN]; omega)) (by first | exact rowN_one _ _ | (simp; done) | (intro u hu; simp at hu; subst hu; rfl) | (intro u hu; simp at hu; rcases hu with rfl | rfl <;> rfl)) (by first | decide | exact Nat.zero_lt_succ _ | simp) trivial _ rfl ?_
      refine J.end ?_
      refine X.asE 9 ⟨some g9, 53, (kC a b 3).cells⟩ rfl (by rfl) ?_
      refine X.then ?_
      refine T.seq ?_
      refine T.text [.l, .l, .l] rfl ?_
      refine J.loadN (k := .l) trivial 9 rfl rfl agg53 (kC a b 3).cells rfl rfl rfl ?_
      refine J.call0 (k := .l) trivial fok61 rfl rfl (fun w hw => Da.idle w (kC a b 3) (kC_ok (ha.keep (keep_snap (I := [r.id, some g4, some g5]) (B0 := B) (l1 := []) hV hn (fun g hg => by cases hg) hw (by repeat (first | exact Sub.refl _ | refine sub_snap ?_ rfl)) (Sub.nil _) rfl)) (hb.keep (keep_snap (I := [r.id, some g4, some g5]) (B0 := B) (l1 := []) hV hn (fun g hg => by cases hg) hw (by repeat (first | exact Sub.refl _ | refine sub_snap ?_ rfl)) (Sub.nil _) rfl)) 3).fo.cs (kC_ok (ha.keep (keep_snap (I := [r.id, some g4, some g5]) (B0 := B) (l1 := []) hV hn (fun g hg => by cases hg) hw (by repeat (first | exact Sub.refl _ | refine sub_snap ?_ rfl)) (Sub.nil _) rfl)) (hb.keep (keep_snap (I := [r.id, some g4, some g5]) (B0 := B) (l1 := []) hV hn (fun g hg => by cases hg) hw (by repeat (first | exact Sub.refl _ | refine sub_snap ?_ rfl)) (Sub.nil _) rfl)) 3).fn.cs (kC_ok ha hb 3).dO (kC_ok ha hb 3).dN) ?_
      refine J.not rfl rfl (by rw [← decide_not]) ?_
      refine J.end ?_
      refine X.then ?_
      refine T.cond_dec rfl (fun h10 => ?_) (fun h10 => ?_)
      · have hid := h10
        refine T.text [.l, .l, .l, .l, .l, .l] rfl ?_
        refine J.move rfl rfl ?_
        refine J.loadN (k := .l) trivial 9 rfl rfl agg53 (kC a b 3).cells rfl rfl rfl ?_
        refine J.callB fok58 rfl rfl _ _ [(0, r.ent 53 (rowC zs)), (4, ⟨some g4, 56, a.cells⟩), (5, ⟨some g5, 56, b.cells⟩), (8, ⟨some g8, 96, ([.func (.func 87) #[] #[], .func (.func 88) #[] #[]] : List Value)⟩), (9, ⟨some g9, 53, (kC a b 3).cells⟩)] (by repeat (first | exact Sub.nil _ | refine Sub.cons (by first | rfl | (rw [dgs_zero]; rfl) | (rw [List.drop_length]; rfl) | (simp; done) | (congr 2; omega) | (congr 3; omega)) ?_ | exact Sub.refl _ | refine sub_snap ?_ rfl)) rfl (fun _ _ => Sub.nil _) (fun w hw => Da.own w n (B ++ ids [(0, r.ent 53 (rowC zs)), (4, ⟨some g4, 56, a.cells⟩), (5, ⟨some g5, 56, b.cells⟩), (8, ⟨some g8, 96, ([.func (.func 87) #[] #[], .func (.func 88) #[] #[]] : List Value)⟩), (9, ⟨some g9, 53, (kC a b 3).cells⟩)]) (kC a b 3) (busy_lt (l1 := [(0, r.ent 53 (rowC zs)), (4, ⟨some g4, 56, a.cells⟩), (5, ⟨some g5, 56, b.cells⟩), (8, ⟨some g8, 96, ([.func (.func 87) #[] #[], .func (.func 88) #[] #[]] : List Value)⟩), (9, ⟨some g9, 53, (kC a b 3).cells⟩)]) hB hw (by repeat (first | exact Sub.nil _ | refine Sub.cons (by first | rfl | (rw [dgs_zero]; rfl) | (rw [List.drop_length]; rfl) | (simp; done) | (congr 2; omega) | (congr 3; omega)) ?_ | exact Sub.refl _ | refine sub_snap ?_ rfl)) rfl) ((kC_ok ha hb 3).keep (keep_snap (I := [r.id, some g4, some g5]) (B0 := B) (l1 := [(0, r.ent 53 (rowC zs)), (4, ⟨some g4, 56, a.cells⟩), (5, ⟨some g5, 56, b.cells⟩), (8, ⟨some g8, 96, ([.func (.func 87) #[] #[], .func (.func 88) #[] #[]] : List Value)⟩), (9, ⟨some g9, 53, (kC a b 3).cells⟩)]) hV hn (fun g hg => by cases hg) hw (by repeat (first | exact Sub.refl _ | refine sub_snap ?_ rfl)) (by repeat (first | exact Sub.nil _ | refine Sub.cons (by first | rfl | (rw [dgs_zero]; rfl) | (rw [List.drop_length]; rfl) | (simp; done) | (congr 2; omega) | (congr 3; omega)) ?_ | exact Sub.refl _ | refine sub_snap ?_ rfl)) rfl))) (fun i43 W43 hP43 hW43 => ?_)
        obtain ⟨hv43, hc43⟩ := hP43
        have kpW43 := (keep_snap (I := [r.id, some g4, some g5]) (B0 := B) (l1 := [(0, r.ent 53 (rowC zs)), (4, ⟨some g4, 56, a.cells⟩), (5, ⟨some g5, 56, b.cells⟩), (8, ⟨some g8, 96, ([.func (.func 87) #[] #[], .func (.func 88) #[] #[]] : List Value)⟩), (9, ⟨some g9, 53, (kC a b 3).cells⟩)]) hV hn (fun g hg => by cases hg) hW43 (by repeat (first | exact Sub.refl _ | refine sub_snap ?_ rfl)) (by repeat (first | exact Sub.nil _ | refine Sub.cons (by first | rfl | (rw [dgs_zero]; rfl) | (rw [List.drop_length]; rfl) | (simp; done) | (congr 2; omega) | (congr 3; omega)) ?_ | exact Sub.refl _ | refine sub_snap ?_ rfl)) rfl)
        have ha := ha.keep kpW43
        have hb := hb.keep kpW43
        have hz := hz.keep kpW43
        have hVW43 := hW43.sub (Sub.nil _)
        refine J.lit1 44 rfl Tryz.underlying25 el53 (by decide) rfl (i43.cells) rfl rfl rfl (fun g44 hg44 => ?_)
        refine J.append 0 rfl Tryz.underlying25 el53 rfl hr (rowC_length zs) rfl rfl rfl (fun w hw => (hw.blkCs (k := 44) rfl)) (Ch.cells_one _) (by omega) (by unfold maxLen; omega) rfl (zs ++ [i43]).length (by rw [List.length_append]; rfl) (rowC (zs ++ [i43])) (rowC_snoc _ _).symm (fun r45 hr45 => ?_)
        refine J.assign rfl rfl ?_
        refine J.end ?_
        refine X.inBlock (X.then ?_)
        refine T.text [.l, .l] rfl ?_
        refine J.add rfl rfl rfl (by first | exact add_nat _ 1 (by omega) | exact i64_ok _ (by omega) | exact rfl) ?_
        refine J.as 46 (.int .i64 ((4 : Nat) : Int)) rfl (by rfl) ?_
        refine J.move rfl rfl ?_
        refine J.end ?_
        refine X.snap [(0, r45.ent 53 (rowC (zs ++ [i43]))), (4, ⟨some g4, 56, a.cells⟩), (5, ⟨some g5, 56, b.cells⟩)] (by repeat (first | exact Sub.nil _ | refine Sub.cons (by first | rfl | (rw [dgs_zero]; rfl) | (rw [List.drop_length]; rfl) | (simp; done) | (congr 2; omega) | (congr 3; omega)) ?_ | exact Sub.refl _ | refine sub_snap ?_ rfl)) rfl (fun Wx11 hWWx11 => ?_)
        have kpWx11 := (keep_snap (I := [r.id, some g4, some g5, some g8, some g9]) (B0 := B) (l1 := [(0, r45.ent 53 (rowC (zs ++ [i43]))), (4, ⟨some g4, 56, a.cells⟩), (5, ⟨some g5, 56, b.cells⟩)]) hVW43 hn (fun g hg => by cases hg) hWWx11 (by repeat (first | exact Sub.refl _ | refine sub_snap ?_ rfl)) (by repeat (first | exact Sub.nil _ | refine Sub.cons (by first | rfl | (rw [dgs_zero]; rfl) | (rw [List.drop_length]; rfl) | (simp; done) | (congr 2; omega) | (congr 3; omega)) ?_ | exact Sub.refl _ | refine sub_snap ?_ rfl)) rfl)
        have ha := ha.keep kpWx11
        have hb := hb.keep kpWx11
        have hz := hz.keep kpWx11
        have hc43 := hc43.keep kpWx11
        have hVWx11 := hWWx11.sub (Sub.nil _)
        exact X.round ⟨Wx11, 4, (zs ++ [i43]), r45⟩ ⟨by dsimp only; omega, by rw [snoc_v, hv43, hm]; exact (bt_yes hid).symm, by dsimp only; rw [List.length_append, List.length_singleton]; omega, hr45, hVWx11, ha, hb, hz.snoc hc43⟩ (by first | omega | (dsimp only; omega)) (by repeat (first | exact Sub.nil _ | refine Sub.cons (by first | rfl | (rw [dgs_zero]; rfl) | (rw [List.drop_length]; rfl) | (simp; done) | (congr 2; omega) | (congr 3; omega)) ?_ | exact Sub.refl _ | refine sub_snap ?_ rfl)) (by repeat (first | exact Sub.nil _ | refine Sub.cons (by first | rfl | (rw [dgs_zero]; rfl) | (rw [List.drop_length]; rfl) | (simp; done) | (congr 2; omega) | (congr 3; omega)) ?_ | exact Sub.refl _ | refine sub_snap ?_ rfl))
      · have hid := Decidable.not_not.1 h10
        refine T.skip ?_
        refine X.inBlock (X.then ?_)
        refine T.text [.l, .l] rfl ?_
        refine J.add rfl rfl rfl (by first | exact add_nat _ 1 (by omega) | exact i64_ok _ (by omega) | exact rfl) ?_
        refine J.as 46 (.int .i64 ((4 : Nat) : Int)) rfl (by rfl) ?_
        refine J.move rfl rfl ?_
        refine J.end ?_
        refine X.snap [(0, r.ent 53 (rowC zs)), (4, ⟨some g4, 56, a.cells⟩), (5, ⟨some g5, 56, b.cells⟩)] (by repeat (first | exact Sub.nil _ | refine Sub.cons (by first | rfl | (rw [dgs_zero]; rfl) | (rw [List.drop_length]; rfl) | (simp; done) | (congr 2; omega) | (congr 3; omega)) ?_ | exact Sub.refl _ | refine sub_snap ?_ rfl)) rfl (fun Wx12 hWWx12 => ?_)
        have kpWx12 := (keep_snap (I := [r.id, some g4, some g5]) (B0 := B) (l1 := [(0, r.ent 53 (rowC zs)), (4, ⟨some g4, 56, a.cells⟩), (5, ⟨some g5, 56, b.cells⟩)]) hV hn (fun g hg => by cases hg) hWWx12 (by repeat (first | exact Sub.refl _ | refine sub_snap ?_ rfl)) (by repeat (first | exact Sub.nil _ | refine Sub.cons (by first | rfl | (rw [dgs_zero]; rfl) | (rw [List.drop_length]; rfl) | (simp; done) | (congr 2; omega) | (congr 3; omega)) ?_ | exact Sub.refl _ | refine sub_snap ?_ rfl)) rfl)
        have ha := ha.keep kpWx12
        have hb := hb.keep kpWx12
        have hz := hz.keep kpWx12
        have hVWx12 := hWWx12.sub (Sub.nil _)
        exact X.round ⟨Wx12, 4, zs, r⟩ ⟨by dsimp only; omega, hm.trans (bt_no hid).symm, by dsimp only; omega, hr, hVWx12, ha, hb, hz⟩ (by first | omega | (dsimp only; omega)) (by repeat (first | exact Sub.nil _ | refine Sub.cons (by first | rfl | (rw [dgs_zero]; rfl) | (rw [List.drop_length]; rfl) | (simp; done) | (congr 2; omega) | (congr 3; omega)) ?_ | exact Sub.refl _ | refine sub_snap ?_ rfl)) (by repeat (first | exact Sub.nil _ | refine Sub.cons (by first | rfl | (rw [dgs_zero]; rfl) | (rw [List.drop_length]; rfl) | (simp; done) | (congr 2; omega) | (congr 3; omega)) ?_ | exact Sub.refl _ | refine sub_snap ?_ rfl))
  · obtain rfl : i = 4 := by omega
    refine T.exit ?_
    refine X.then_exit (X.then_exit (X.inBlock_eq (X.then ?_)))
    refine T.seq ?_
    refine T.text [.l, .l, .l, .l, .l, .l, .l, .l, .l] rfl ?_
    refine J.move rfl rfl ?_
    refine J.fieldAddr fld56_0 rfl rfl ?_
    refine J.loadN (k := .l) trivial 4 rfl rfl agg47 (ac a.who) rfl rfl rfl ?_
    refine J.fieldAddr fld56_4 rfl rfl ?_
    refine J.load1 (k := .l) trivial 4 rfl rfl one54 (by first | rfl | with_reducible exact rowN_get0 _ _ _ (by omega) | with_reducible exact rowN_get1 _ _ _ (by omega) | with_reducible exact rowN_get1s _ _ _ _ (by omega) | exact rowN_get1 _ _ _ (by omega) | exact rowN_get1s _ _ _ _ (by omega) | exact rowN_get0 _ _ _ (by omega)) rfl ?_
    refine J.as 51 (.slice a.sA 0 a.sC) rfl (by rw [hsa]) ?_
    refine J.fieldAddr fld56_4 rfl rfl ?_
    refine J.load1 (k := .l) trivial 5 rfl rfl one54 (by first | rfl | with_reducible exact rowN_get0 _ _ _ (by omega) | with_reducible exact rowN_get1 _ _ _ (by omega) | with_reducible exact rowN_get1s _ _ _ _ (by omega) | exact rowN_get1 _ _ _ (by omega) | exact rowN_get1s _ _ _ _ (by omega) | exact rowN_get0 _ _ _ (by omega)) rfl ?_
    refine J.as 53 (.slice b.sA 0 b.sC) rfl (by rw [hsb]) ?_
    refine J.call0 (k := .l) trivial fok65 rfl rfl (fun w hw => Dl.slots w (hdOf r.id) _ _ _ r.cap _ _ _) ?_
    refine J.assign rfl rfl ?_
    refine J.end ?_
    refine X.then ?_
    refine T.ret ?_
    exact X.ret1 rfl (RV.tmp rfl) (fun w' hw' => ⟨(zs, r), ⟨hm, hr, fit_row hw' (j := 0) rfl (fun g h => ⟨hB g h, fun q => by cases q⟩), hz.keep (((keep_snap (I := [r.id, some g4, some g5]) (B0 := B) (l1 := []) hV hn (fun g hg => by cases hg) hw' (by repeat (first | exact Sub.refl _ | refine sub_snap ?_ rfl)) (Sub.nil _) rfl)).le (fun o h => List.mem_append_left _ h))⟩, rfl, hw'.sub (Sub.nil _)⟩)
end Go.Proofs.YtlllcafedekojaaGreatDoor.Dm
set_option linter.unusedVariables false
set_option maxRecDepth 20000
namespace Go.Proofs.YtlllcafedekojaaGreatDoor.Dn
open Go Go.Fw

theorem sz287 : SizeT Tryz.prog 287 32 := (by unfold SizeT; kernel_rfl)
theorem fok85 : FnOk Tryz.prog 85 := FnOk.mk' Tryz.func85 (by kernel_rfl) rfl
theorem fok86 : FnOk Tryz.prog 86 := FnOk.mk' Tryz.func86 (by kernel_rfl) rfl
theorem zero56 : ZeroT Tryz.prog 56 (.agg ([.int .u8 0, .int .u8 0, .int .u8 0, .int .u8 0, .int .u8 0, .int .u8 0, .int .u8 0, .int .u8 0, .int .u8 0, .int .u8 0, .int .u8 0, .int .u8 0, .int .u8 0, .int .u8 0, .int .u8 0, .int .u8 0, .int .u8 0, .int .u8 0, .int .u8 0, .int .u8 0, .int .u64 0, .int .u64 0, .int .u64 0, .int .u64 0, .int .u64 0, .slice none 0 0, .slice none 0 0]).toArray) := (by unfold ZeroT; kernel_rfl)
theorem sz51 : SizeT Tryz.prog 51 1 := (by unfold SizeT; kernel_rfl)
theorem fld56_3 : FldT Tryz.prog 56 3 51 25 0 := ⟨by kernel_rfl, sz51⟩
theorem one51 : OneT Tryz.prog 51 := ⟨⟨_, Tryz.underlying51, rfl⟩, by kernel_rfl⟩
theorem fok72 : FnOk Tryz.prog 72 := FnOk.mk' Tryz.func72 (by kernel_rfl) rfl
theorem fok64 : FnOk Tryz.prog 64 := FnOk.mk' Tryz.func64 (by kernel_rfl) rfl
theorem zero97 : ZeroT Tryz.prog 97 (.agg ([.nilFunc, .nilFunc, .nilFunc, .nilFunc, .nilFunc, .nilFunc, .nilFunc, .nilFunc]).toArray) := (by unfold ZeroT; kernel_rfl)
theorem sz97 : SizeT Tryz.prog 97 8 := (by unfold SizeT; kernel_rfl)
theorem sz53 : SizeT Tryz.prog 53 35 := (by unfold SizeT; kernel_rfl)
theorem sl25 : SlT Tryz.prog 25 53 35 := ⟨Tryz.underlying25, sz53⟩
theorem sz3 : SizeT Tryz.prog 3 1 := (by unfold SizeT; kernel_rfl)
theorem fld53_1 : FldT Tryz.prog 53 1 3 20 0 := ⟨by kernel_rfl, sz3⟩
theorem one3 : OneT Tryz.prog 3 := ⟨⟨_, Tryz.underlying3, rfl⟩, by kernel_rfl⟩
theorem sz96 : SizeT Tryz.prog 96 2 := (by unfold SizeT; kernel_rfl)
theorem arr97 : ArrT Tryz.prog 97 4 96 2 := ⟨Tryz.underlying97, sz96⟩
theorem agg96 : AggT Tryz.prog 96 2 := ⟨⟨_, Tryz.underlying96, rfl⟩, by kernel_rfl⟩
theorem zero96 : ZeroT Tryz.prog 96 (.agg ([.nilFunc, .nilFunc]).toArray) := (by unfold ZeroT; kernel_rfl)
theorem sz93 : SizeT Tryz.prog 93 1 := (by unfold SizeT; kernel_rfl)
theorem fld96_0 : FldT Tryz.prog 96 0 93 0 0 := ⟨by kernel_rfl, sz93⟩
theorem one93 : OneT Tryz.prog 93 := ⟨⟨_, Tryz.underlying93, rfl⟩, by kernel_rfl⟩
theorem zero50 : ZeroT Tryz.prog 50 (.agg ([.int .u64 0, .int .u64 0, .int .u64 0, .int .u64 0]).toArray) := (by unfold ZeroT; kernel_rfl)
theorem sz50 : SizeT Tryz.prog 50 4 := (by unfold SizeT; kernel_rfl)
theorem agg50 : AggT Tryz.prog 50 4 := ⟨⟨_, Tryz.underlying50, rfl⟩, by kernel_rfl⟩
theorem fld53_3 : FldT Tryz.prog 53 3 50 25 3 := ⟨by kernel_rfl, sz50⟩
theorem sz48 : SizeT Tryz.prog 48 1 := (by unfold SizeT; kernel_rfl)
theorem arr50 : ArrT Tryz.prog 50 4 48 1 := ⟨Tryz.underlying50, sz48⟩
theorem one48 : OneT Tryz.prog 48 := ⟨⟨_, Tryz.underlying48, rfl⟩, by kernel_rfl⟩
theorem eqw50 : EqT Tryz.prog 50 := ⟨⟨48, arr50, one48, Tryz.underlying48⟩, by kernel_rfl⟩
theorem fld53_5 : FldT Tryz.prog 53 5 51 33 0 := ⟨by kernel_rfl, sz51⟩
theorem fok60 : FnOk Tryz.prog 60 := FnOk.mk' Tryz.func60 (by kernel_rfl) rfl
theorem sz94 : SizeT Tryz.prog 94 1 := (by unfold SizeT; kernel_rfl)
theorem fld96_1 : FldT Tryz.prog 96 1 94 1 0 := ⟨by kernel_rfl, sz94⟩
theorem one94 : OneT Tryz.prog 94 := ⟨⟨_, Tryz.underlying94, rfl⟩, by kernel_rfl⟩
theorem fld53_4 : FldT Tryz.prog 53 4 50 29 3 := ⟨by kernel_rfl, sz50⟩
theorem fld53_6 : FldT Tryz.prog 53 6 51 34 0 := ⟨by kernel_rfl, sz51⟩
theorem sz54 : SizeT Tryz.prog 54 1 := (by unfold SizeT; kernel_rfl)
theorem fld56_4 : FldT Tryz.prog 56 4 54 26 0 := ⟨by kernel_rfl, sz54⟩
theorem one54 : OneT Tryz.prog 54 := ⟨⟨_, Tryz.underlying54, rfl⟩, by kernel_rfl⟩
theorem fok73 : FnOk Tryz.prog 73 := FnOk.mk' Tryz.func73 (by kernel_rfl) rfl
theorem agg56 : AggT Tryz.prog 56 27 := ⟨⟨_, Tryz.underlying56, rfl⟩, by kernel_rfl⟩
theorem sz56 : SizeT Tryz.prog 56 27 := (by unfold SizeT; kernel_rfl)

set_option maxHeartbeats 4000000 in
theorem turned (w : World) (a : Ac) (c : Ch) (A1 : Option Addr) (c1 : Nat) (hnn : a.nonce < 18446744073709551616) (hc0 : a.code = []) (hs0 : a.sl.length = 0) (hA : Cs w A1 (rowC [c])) (hc1 : 1 ≤ c1) (hkd : c.kind = 2) (ho : c.oc = []) (hno : c.nc = []) (hbal : a.bal % 2 ^ 256 = c.old % 2 ^ 256) :
    Calls Tryz.prog 51 [.agg a.cells.toArray, .slice A1 1 c1].toArray w fun e w' => ∃ q : RowIx, True ∧ e = .returned (.tuple #[.agg (a.moved c.new q).cells.toArray, .bool true]) ∧ WS w [] [] w' := by
  have e1 : Cs w a.cA (rowN .u8 a.code) := by rw [hc0]; exact Cs.nil _ _
  have hlc : a.code.length ≤ 1000000000000 := by rw [hc0]; exact Nat.zero_le _
  refine calls_of_T [] 77 [] Tryz.func51 rfl Tryz.ntmps51 (by simp) (WS.refl _ _) ?_
  refine T.seq ?_
  refine T.text [.l, .l, .l] rfl ?_
  refine J.box 2 rfl rfl (a.cells) rfl rfl (fun g2 hg2 => ?_)
  refine J.alloc 4 rfl zero56 [.int .u8 0, .int .u8 0, .int .u8 0, .int .u8 0, .int .u8 0, .int .u8 0, .int .u8 0, .int .u8 0, .int .u8 0, .int .u8 0, .int .u8 0, .int .u8 0, .int .u8 0, .int .u8 0, .int .u8 0, .int .u8 0, .int .u8 0, .int .u8 0, .int .u8 0, .int .u8 0, .int .u64 0, .int .u64 0, .int .u64 0, .int .u64 0, .int .u64 0, .slice none 0 0, .slice none 0 0] rfl rfl (fun g4 hg4 => ?_)
  refine J.assign rfl rfl ?_
  refine J.end ?_
  refine X.then ?_
  refine T.seq ?_
  refine T.text [.l, .l, .l, .l, .l] rfl ?_
  refine J.fieldAddr fld56_3 rfl rfl ?_
  refine J.load1 (k := .l) trivial 2 rfl rfl one51 (by first | rfl | with_reducible exact rowN_get0 _ _ _ (by omega) | with_reducible exact rowN_get1 _ _ _ (by omega) | with_reducible exact rowN_get1s _ _ _ _ (by omega) | exact rowN_get1 _ _ _ (by omega) | exact rowN_get1s _ _ _ _ (by omega) | exact rowN_get0 _ _ _ (by omega)) rfl ?_
  refine J.callRow 13 rfl (t := 5) (kd := .u8) fok72 rfl rfl (fun w hw => Da.Clone w _ _ _ (e1.ws hw (off_nil _)) hlc) (fun zs13 r13 hz13 hr13 => ?_)
  have hz0 : zs13 = [] := hz13.trans hc0
  refine J.fieldAddr fld56_3 rfl rfl ?_
  refine J.store 2 rfl rfl rfl rfl [r13.val zs13.length] rfl sz51 (by first | decide | exact Nat.le_refl _ | exact Nat.le_of_ble_eq_true rfl | (simp [rowN]; done) | (simp [rowN]; omega)) (by intro u hu; rw [List.mem_singleton.1 hu]; rfl) (by first | decide | exact Nat.zero_lt_succ _ | simp) trivial _ rfl ?_
  refine J.end ?_
  refine X.asE 2 ⟨some g2, 56, ((a.coded zs13 r13).setB a.bal).cells⟩ rfl (by rfl) ?_
  refine X.then ?_
  refine T.seq ?_
  refine T.text [.l, .l, .l] rfl ?_
  refine J.call0 (k := .l) trivial fok64 rfl rfl (fun w hw => Dk.views w) ?_
  refine J.alloc 6 rfl zero97 [.nilFunc, .nilFunc, .nilFunc, .nilFunc, .nilFunc, .nilFunc, .nilFunc, .nilFunc] rfl rfl (fun g6 hg6 => ?_)
  refine J.store 6 rfl rfl rfl rfl ([.nilFunc, .nilFunc, .func (.func 81) #[] #[], .func (.func 83) #[] #[], .func (.func 85) #[] #[], .func (.func 86) #[] #[], .func (.func 87) #[] #[], .func (.func 88) #[] #[]] : List Value) rfl sz97 (by first | decide | exact Nat.le_refl _ | exact Nat.le_of_ble_eq_true rfl | (simp [rowN]; done) | (simp [rowN]; omega)) (by intro u hu; simp at hu; rcases hu with rfl | rfl | rfl | rfl | rfl | rfl | rfl | rfl <;> rfl) (by first | decide | exact Nat.zero_lt_succ _ | simp) trivial ([.nilFunc, .nilFunc, .func (.func 81) #[] #[], .func (.func 83) #[] #[], .func (.func 85) #[] #[], .func (.func 86) #[] #[], .func (.func 87) #[] #[], .func (.func 88) #[] #[]] : List Value) rfl ?_
  refine J.end ?_
  refine X.then ?_
  refine T.seq ?_
  refine T.block ?_
  refine T.loop (ι := Nat × Nat × Option Addr × Nat) (fun ((k, x, A, cc) : Nat × Nat × Option Addr × Nat) => k ≤ 1 ∧ (k = 1 → A1 = A ∧ c1 = cc ∧ a.bal = x) ∧ (k = 0 → c.new = x)) (fun ((k, x, A, cc) : Nat × Nat × Option Addr × Nat) => [(0, .agg a.cells.toArray), (2, .pointer (some ⟨g2, 0, none⟩)), (4, .pointer (some ⟨g4, 0, none⟩)), (12, .slice a.cA a.code.length a.cC), (13, r13.val zs13.length), (15, .agg ([.nilFunc, .nilFunc, .func (.func 81) #[] #[], .func (.func 83) #[] #[], .func (.func 85) #[] #[], .func (.func 86) #[] #[], .func (.func 87) #[] #[], .func (.func 88) #[] #[]] : List Value).toArray), (6, .pointer (some ⟨g6, 0, none⟩)), (1, .slice A k cc)]) (fun ((k, x, A, cc) : Nat × Nat × Option Addr × Nat) => [(4, ⟨some g4, 56, [.int .u8 0, .int .u8 0, .int .u8 0, .int .u8 0, .int .u8 0, .int .u8 0, .int .u8 0, .int .u8 0, .int .u8 0, .int .u8 0, .int .u8 0, .int .u8 0, .int .u8 0, .int .u8 0, .int .u8 0, .int .u8 0, .int .u8 0, .int .u8 0, .int .u8 0, .int .u8 0, .int .u64 0, .int .u64 0, .int .u64 0, .int .u64 0, .int .u64 0, .slice none 0 0, .slice none 0 0]⟩), (13, r13.ent 5 (rowN .u8 zs13)), (6, ⟨some g6, 97, ([.nilFunc, .nilFunc, .func (.func 81) #[] #[], .func (.func 83) #[] #[], .func (.func 85) #[] #[], .func (.func 86) #[] #[], .func (.func 87) #[] #[], .func (.func 88) #[] #[]] : List Value)⟩), (2, ⟨some g2, 56, ((a.coded zs13 r13).setB x).cells⟩)]) (fun ((k, x, A, cc) : Nat × Nat × Option Addr × Nat) => k) ⟨1, a.bal, A1, c1⟩ ⟨Nat.le_refl _, fun _ => ⟨rfl, rfl, rfl⟩, fun q => (by cases q)⟩ (by repeat (first | exact Sub.nil _ | refine Sub.cons (by first | rfl | (rw [dgs_zero]; rfl) | (rw [List.drop_length]; rfl) | (simp; done) | (congr 2; omega) | (congr 3; omega)) ?_)) (by repeat (first | exact Sub.nil _ | refine Sub.cons (by first | rfl | (rw [dgs_zero]; rfl) | (rw [List.drop_length]; rfl) | (simp; done) | (congr 2; omega) | (congr 3; omega)) ?_)) ?_
  rintro ⟨k, x, A, cc⟩ ⟨hk, hk1, hk0⟩
  try dsimp only at *
  refine T.seq ?_
  refine T.seq ?_
  refine T.text [.l, .l, .l, .l, .l, .l, .l, .l, .l, .l] rfl ?_
  refine J.move rfl rfl ?_
  refine J.lenSl Tryz.underlying25 rfl rfl ?_
  refine J.gtr rfl rfl rfl rfl ?_
  refine J.move rfl rfl ?_
  refine J.split 19 rfl (fun h1 => ?_) (fun h1 => ?_)
  · obtain rfl : k = 1 := by omega
    obtain ⟨rfl, rfl, rfl⟩ := hk1 rfl
    refine J.yes rfl rfl ?_
    refine J.move rfl rfl ?_
    refine J.yes rfl rfl ?_
    refine J.indexSlI sl25 rfl (hA.isSome (by rw [rowC_length]; simp)) rfl (by omega) (by omega) (by rfl) rfl ?_
    refine J.yes rfl rfl ?_
    refine J.fieldAddrI fld53_1 rfl rfl ?_
    refine J.yes rfl rfl ?_
    refine J.loadI1 (k := .l) trivial hA (off_nil _) rfl one3 (by rfl) rfl ?_
    refine J.as 23 (.int .i64 2) rfl (by show Value.int .i64 c.kind = _; rw [hkd]) ?_
    refine J.yes rfl rfl ?_
    refine J.neq rfl rfl rfl (decide_eq_true (by first | omega | rfl | assumption | (simp only [*]; done))) ?_
    refine J.pick_t rfl rfl rfl ?_
    refine J.end ?_
    refine X.then ?_
    refine T.cond_true rfl ?_
    refine T.skip ?_
    refine X.then ?_
    refine T.block ?_
    refine T.seq ?_
    refine T.text [.l, .l, .l, .l, .l, .l, .l, .l] rfl ?_
    refine J.move rfl rfl ?_
    refine J.indexSlI sl25 rfl (hA.isSome (by rw [rowC_length]; simp)) rfl (by omega) (by omega) (by rfl) rfl ?_
    refine J.fieldAddrI fld53_1 rfl rfl ?_
    refine J.loadI1 (k := .l) trivial hA (off_nil _) rfl one3 (by rfl) rfl ?_
    refine J.as 29 (.int .i64 2) rfl (by show Value.int .i64 c.kind = _; rw [hkd]) ?_
    refine J.indexArr arr97 rfl rfl (by omega) (by omega) (by first | exact Int.toNat_natCast _ | rfl) rfl ?_
    refine J.loadN (k := .l) trivial 6 rfl rfl agg96 ([.func (.func 85) #[] #[], .func (.func 86) #[] #[]] : List Value) rfl rfl rfl ?_
    refine J.alloc 7 rfl zero96 [.nilFunc, .nilFunc] rfl rfl (fun g7 hg7 => ?_)
    refine J.store 7 rfl rfl rfl rfl ([.func (.func 85) #[] #[], .func (.func 86) #[] #[]] : List Value) rfl sz96 (by first | decide | exact Nat.le_refl _ | exact Nat.le_of_ble_eq_true rfl | (simp [rowN]; done) | (simp [rowN]; omega)) (by first | exact rowN_one _ _ | (simp; done) | (intro u hu; simp at hu; subst hu; rfl) | (intro u hu; simp at hu; rcases hu with rfl | rfl <;> rfl)) (by first | decide | exact Nat.zero_lt_succ _ | simp) trivial ([.func (.func 85) #[] #[], .func (.func 86) #[] #[]] : List Value) rfl ?_
    refine J.end ?_
    refine X.then ?_
    refine T.seq ?_
    refine T.seq ?_
    refine T.text [.l, .l, .l, .l, .l, .l, .l, .l, .l] rfl ?_
    refine J.fieldAddr fld96_0 rfl rfl ?_
    refine J.load1 (k := .l) trivial 7 rfl rfl one93 rfl rfl ?_
    refine J.callV0 fok85 rfl rfl rfl (fun w hw => Dk.getB w _ ((a.coded zs13 r13).setB a.bal) hnn (hw.blkCs (k := 2) rfl)) ?_
    refine J.move rfl rfl ?_
    refine J.extract rfl rfl rfl ?_
    refine J.extract rfl rfl rfl ?_
    refine J.alloc 8 rfl zero50 [.int .u64 0, .int .u64 0, .int .u64 0, .int .u64 0] rfl rfl (fun g8 hg8 => ?_)
    refine J.store 8 rfl rfl rfl rfl _ rfl sz50 (by first | decide | exact Nat.le_refl _ | exact Nat.le_of_ble_eq_true rfl | (simp [rowN]; done) | (simp [rowN]; omega)) (by first | exact rowN_one _ _ | (simp; done) | (intro u hu; simp at hu; subst hu; rfl) | (intro u hu; simp at hu; rcases hu with rfl | rfl <;> rfl)) (by first | decide | exact Nat.zero_lt_succ _ | simp) trivial _ rfl ?_
    refine J.assign rfl rfl ?_
    refine J.end ?_
    refine X.then ?_
    refine T.seq ?_
    refine T.draw [] [(0, .q), (1, .g), (2, .g), (3, .g), (4, .q), (5, .g), (6, .g), (7, .g), (8, .g), (9, .g), (10, .g), (11, .q), (12, .q), (13, .g), (14, .g)] (by kernel_rfl) (by kernel_rfl) ?_ (by repeat (first | exact Sub.nil _ | refine Sub.cons (by first | rfl | (rw [dgs_zero]; rfl) | (rw [List.drop_length]; rfl) | (simp; done) | (congr 2; omega) | (congr 3; omega)) ?_))
    refine J.loadW (k := .q) trivial 8 rfl rfl agg50 (by first | rfl | with_reducible exact rowW_seg0 _ _ _ (by omega) | with_reducible exact rowW_seg00 _ _ (by omega) | with_reducible exact rowW_segs _ _ _ (by omega) | with_reducible exact rowW_seg _ _ (by omega) | with_reducible exact rowW_segb _ _ _ (by omega) | exact rowW_seg _ _ (by omega) | exact rowW_segs _ _ _ (by omega)) rfl ?_
    refine J.move rfl rfl ?_
    refine J.indexSlI sl25 rfl (hA.isSome (by rw [rowC_length]; simp)) rfl (by omega) (by omega) (by rfl) rfl ?_
    refine J.fieldAddrI fld53_3 rfl rfl ?_
    refine J.loadIN (k := .q) trivial hA (off_nil _) rfl agg50 (wc c.old) rfl (by rfl) rfl ?_
    refine J.neqW eqw50 rfl rfl rfl ?_
    refine J.as 43 (.bool false) rfl (by rw [decide_eq_false (fun q => q hbal)]) ?_
    refine J.move rfl rfl ?_
    refine J.yes rfl rfl ?_
    refine J.move rfl rfl ?_
    refine J.yes rfl rfl ?_
    refine J.move rfl rfl ?_
    refine J.yes rfl rfl ?_
    refine J.indexSlI sl25 rfl (hA.isSome (by rw [rowC_length]; simp)) rfl (by omega) (by omega) (by rfl) rfl ?_
    refine J.yes rfl rfl ?_
    refine J.fieldAddrI fld53_5 rfl rfl ?_
    refine J.yes rfl rfl ?_
    refine J.loadI1 (k := .q) trivial hA (off_nil _) rfl one51 (by rfl) rfl ?_
    refine J.yes rfl rfl ?_
    refine J.call0 (k := .q) trivial fok60 rfl rfl (fun w hw => Da.Equal w none c.oA 0 c.oC [] c.oc (Cs.nil _ _) (by rw [ho]; exact Cs.nil _ _) dg_nil (by rw [ho]; exact dg_nil)) ?_
    refine J.as 50 (.bool true) rfl (by rw [decide_eq_true ho.symm]) ?_
    refine J.yes rfl rfl ?_
    refine J.not rfl rfl rfl ?_
    refine J.pick_f rfl rfl rfl ?_
    refine J.end ?_
    refine X.then ?_
    refine T.cond_false rfl ?_
    refine T.skip ?_
    refine X.then ?_
    refine T.seq ?_
    refine T.draw [] [(0, .g), (1, .q), (2, .g), (3, .g), (4, .g), (5, .q), (6, .g), (7, .g), (8, .g), (9, .q), (10, .l)] (by kernel_rfl) (by kernel_rfl) ?_ (by repeat (first | exact Sub.nil _ | refine Sub.cons (by first | rfl | (rw [dgs_zero]; rfl) | (rw [List.drop_length]; rfl) | (simp; done) | (congr 2; omega) | (congr 3; omega)) ?_))
    refine J.fieldAddr fld96_1 rfl rfl ?_
    refine J.load1 (k := .q) trivial 7 rfl rfl one94 rfl rfl ?_
    refine J.move rfl rfl ?_
    refine J.indexSlI sl25 rfl (hA.isSome (by rw [rowC_length]; simp)) rfl (by omega) (by omega) (by rfl) rfl ?_
    refine J.fieldAddrI fld53_4 rfl rfl ?_
    refine J.loadIN (k := .q) trivial hA (off_nil _) rfl agg50 (wc c.new) rfl (by rfl) rfl ?_
    refine J.move rfl rfl ?_
    refine J.indexSlI sl25 rfl (hA.isSome (by rw [rowC_length]; simp)) rfl (by omega) (by omega) (by rfl) rfl ?_
    refine J.fieldAddrI fld53_6 rfl rfl ?_
    refine J.loadI1 (k := .q) trivial hA (off_nil _) rfl one51 (by rfl) rfl ?_
    refine J.callVMut 2 rfl rfl fok86 rfl rfl rfl (fun w hw => Dk.setB w _ ((a.coded zs13 r13).setB a.bal) c.new (.slice c.nA c.nc.length c.nC) (hw.live 2 _ rfl)) ?_
    refine J.end ?_
    refine X.then ?_
    refine T.text [.l, .l, .l] rfl ?_
    refine J.move rfl rfl ?_
    refine J.sliceSl sl25 rfl (optInt.some rfl (by omega) (by rfl)) optInt.none optInt.none (by simp) (by omega) (by omega) (by omega) rfl rfl ?_
    refine J.assign rfl rfl ?_
    refine J.end ?_
    refine X.inBlock ?_
    exact X.round ⟨0, c.new, (if c1 = 1 then A1 else A1.map (·.add (1 * 35))), (c1 - 1)⟩ ⟨Nat.zero_le _, fun q => (by cases q), fun _ => rfl⟩ (by show 0 < 1; omega) (by repeat (first | exact Sub.nil _ | refine Sub.cons (by first | rfl | (rw [dgs_zero]; rfl) | (rw [List.drop_length]; rfl) | (simp; done) | (congr 2; omega) | (congr 3; omega)) ?_)) (by repeat (first | exact Sub.nil _ | refine Sub.cons (by first | rfl | (rw [dgs_zero]; rfl) | (rw [List.drop_length]; rfl) | (simp; done) | (congr 2; omega) | (congr 3; omega)) ?_))
  · obtain rfl : k = 0 := by omega
    obtain rfl := hk0 rfl
    refine J.no rfl rfl rfl rfl ?_
    refine J.no rfl rfl rfl rfl ?_
    refine J.no rfl rfl rfl rfl ?_
    refine J.no rfl rfl rfl rfl ?_
    refine J.no rfl rfl rfl rfl ?_
    refine J.pick_f rfl rfl rfl ?_
    refine J.end ?_
    refine X.then ?_
    refine T.cond_false rfl ?_
    refine T.exit ?_
    refine X.then_exit (X.then_exit (X.inBlock_eq (X.then ?_)))
    refine T.seq ?_
    refine T.text [.l] rfl ?_
    refine J.assign rfl rfl ?_
    refine J.end ?_
    refine X.then ?_
    refine T.seq ?_
    refine T.text [.l, .l, .l, .l, .l, .l, .l, .l, .l, .l] rfl ?_
    refine J.fieldAddr fld56_4 rfl rfl ?_
    refine J.load1 (k := .l) trivial 2 rfl rfl one54 (by first | rfl | with_reducible exact rowN_get0 _ _ _ (by omega) | with_reducible exact rowN_get1 _ _ _ (by omega) | with_reducible exact rowN_get1s _ _ _ _ (by omega) | exact rowN_get1 _ _ _ (by omega) | exact rowN_get1s _ _ _ _ (by omega) | exact rowN_get0 _ _ _ (by omega)) rfl ?_
    refine J.as 69 (.slice a.sA 0 a.sC) rfl (by show Value.slice a.sA a.sl.length a.sC = _; rw [hs0]) ?_
    refine J.move rfl rfl ?_
    refine J.call0 (k := .l) trivial fok73 rfl rfl (fun w hw => Dl.store w _ _ _ _) ?_
    refine J.move rfl rfl ?_
    refine J.extract rfl rfl rfl ?_
    refine J.extract rfl rfl rfl ?_
    refine J.fieldAddr fld56_4 rfl rfl ?_
    refine J.store 2 rfl rfl rfl rfl [.slice none 0 0] rfl sz54 (by first | decide | exact Nat.le_refl _ | exact Nat.le_of_ble_eq_true rfl | (simp [rowN]; done) | (simp [rowN]; omega)) (by intro u hu; rw [List.mem_singleton.1 hu]; rfl) (by first | decide | exact Nat.zero_lt_succ _ | simp) trivial _ rfl ?_
    refine J.assign rfl rfl ?_
    refine J.end ?_
    refine X.asE 2 ⟨some g2, 56, (a.moved c.new r13).cells⟩ rfl (by subst hz0; rfl) ?_
    refine X.then ?_
    refine T.seq ?_
    refine T.text [.l, .l, .l, .l] rfl ?_
    refine J.loadN (k := .l) trivial 2 rfl rfl agg56 (a.moved c.new r13).cells rfl rfl rfl ?_
    refine J.move rfl rfl ?_
    refine J.store 4 rfl rfl rfl rfl (a.moved c.new r13).cells rfl sz56 (Nat.le_of_ble_eq_true rfl) (by first | exact Ac.cells_one _ | exact Ch.cells_one _) (Nat.zero_lt_succ _) trivial (a.moved c.new r13).cells rfl ?_
    refine J.assign rfl rfl ?_
    refine J.end ?_
    refine X.then ?_
    refine T.ret ?_
    exact X.ret2 rfl (RV.agg 4 rfl rfl agg56 (a.moved c.new r13).cells (by rfl) (by rfl) rfl) (RV.tmp rfl) (fun w' hw' => ⟨r13, trivial, rfl, hw'.sub (Sub.nil _)⟩)
end Go.Proofs.YtlllcafedekojaaGreatDoor.Dn
set_option linter.unusedVariables false
set_option maxRecDepth 20000
namespace Go.Proofs.YtlllcafedekojaaGreatDoor.Do
open Go Go.Fw

theorem sz287 : SizeT Tryz.prog 287 32 := (by unfold SizeT; kernel_rfl)
theorem fok85 : FnOk Tryz.prog 85 := FnOk.mk' Tryz.func85 (by kernel_rfl) rfl
theorem fok86 : FnOk Tryz.prog 86 := FnOk.mk' Tryz.func86 (by kernel_rfl) rfl
theorem fok35 : FnOk Tryz.prog 35 := FnOk.mk' Tryz.func35 (by kernel_rfl) rfl
theorem sz56 : SizeT Tryz.prog 56 27 := (by unfold SizeT; kernel_rfl)
theorem sl22 : SlT Tryz.prog 22 56 27 := ⟨Tryz.underlying22, sz56⟩
theorem sz47 : SizeT Tryz.prog 47 20 := (by unfold SizeT; kernel_rfl)
theorem fld56_0 : FldT Tryz.prog 56 0 47 0 19 := ⟨by kernel_rfl, sz47⟩
theorem sz5 : SizeT Tryz.prog 5 1 := (by unfold SizeT; kernel_rfl)
theorem arr47 : ArrT Tryz.prog 47 20 5 1 := ⟨Tryz.underlying47, sz5⟩
theorem fok40 : FnOk Tryz.prog 40 := FnOk.mk' Tryz.func40 (by kernel_rfl) rfl
theorem zero56 : ZeroT Tryz.prog 56 (.agg ([.int .u8 0, .int .u8 0, .int .u8 0, .int .u8 0, .int .u8 0, .int .u8 0, .int .u8 0, .int .u8 0, .int .u8 0, .int .u8 0, .int .u8 0, .int .u8 0, .int .u8 0, .int .u8 0, .int .u8 0, .int .u8 0, .int .u8 0, .int .u8 0, .int .u8 0, .int .u8 0, .int .u64 0, .int .u64 0, .int .u64 0, .int .u64 0, .int .u64 0, .slice none 0 0, .slice none 0 0]).toArray) := (by unfold ZeroT; kernel_rfl)
theorem agg56 : AggT Tryz.prog 56 27 := ⟨⟨_, Tryz.underlying56, rfl⟩, by kernel_rfl⟩
theorem agg47 : AggT Tryz.prog 47 20 := ⟨⟨_, Tryz.underlying47, rfl⟩, by kernel_rfl⟩
theorem fok41 : FnOk Tryz.prog 41 := FnOk.mk' Tryz.func41 (by kernel_rfl) rfl

set_option maxHeartbeats 4000000 in
theorem Of (w : World) (n : Nat) (B : List (Option Nat)) (a b : Ac) (gA gB cA cB : Nat) (hn : n ≤ w.heap.size) (hB : ∀ g, some g ∈ B → g < w.heap.size) (hA : Cs w (some ⟨gA, 0, none⟩) (rowA [a])) (hD : Cs w (some ⟨gB, 0, none⟩) (rowA [b])) (hcA : 1 ≤ cA) (hcB : 1 ≤ cB) (ha : a.Ok w n B) (hb : b.Ok w n B) (hca : a.code.length = 0) (hcb : b.code.length = 0) (hsa : a.sl.length = 0) (hsb : b.sl.length = 0) (hla : lookZ a = 0) (hlb : lookZ b = 0) (hwho : a.who = b.who) :
    Calls Tryz.prog 17 [.slice (some ⟨gA, 0, none⟩) 1 cA, .slice (some ⟨gB, 0, none⟩) 1 cB].toArray w fun e w' => ∃ q : List Ch × RowIx, (q.1.map Ch.v = bt a b 4 ∧ q.2.Ok 35 q.1.length ∧ Fit w' n B (hdOf q.2.id) (rowC q.1) ∧ AllC w' n B q.1) ∧ e = .returned (.tuple #[q.2.val q.1.length, .int .i64 0]) ∧ WS w [] [] w' := by
  refine calls_of_T [] 80 [] Tryz.func17 rfl Tryz.ntmps17 (by simp) (WS.refl _ _) ?_
  refine T.seq ?_
  refine T.text [.l, .l] rfl ?_
  refine J.assign rfl rfl ?_
  refine J.assign rfl rfl ?_
  refine J.end ?_
  refine X.then ?_
  refine T.seq ?_
  refine T.seq ?_
  refine T.text [.l, .l, .l, .l, .l, .l, .l] rfl ?_
  refine J.move rfl rfl ?_
  refine J.call0 (k := .l) trivial fok35 rfl rfl (fun w hw => Dj.Check w _ _ a (hA.ws hw (off_nil _)) hca hla) ?_
  refine J.move rfl rfl ?_
  refine J.extract rfl rfl rfl ?_
  refine J.extract rfl rfl rfl ?_
  refine J.assign rfl rfl ?_
  refine J.assign rfl rfl ?_
  refine J.end ?_
  refine X.then ?_
  refine T.seq ?_
  refine T.text [.l, .l] rfl ?_
  refine J.move rfl rfl ?_
  refine J.neq rfl rfl rfl (decide_eq_false (by first | omega | rfl | assumption | (simp only [*]; done))) ?_
  refine J.end ?_
  refine X.then ?_
  refine T.cond_false rfl ?_
  refine T.skip ?_
  refine X.then ?_
  refine T.seq ?_
  refine T.seq ?_
  refine T.text [.l, .l, .l, .l, .l, .l, .l] rfl ?_
  refine J.move rfl rfl ?_
  refine J.call0 (k := .l) trivial fok35 rfl rfl (fun w hw => Dj.Check w _ _ b (hD.ws hw (off_nil _)) hcb hlb) ?_
  refine J.move rfl rfl ?_
  refine J.extract rfl rfl rfl ?_
  refine J.extract rfl rfl rfl ?_
  refine J.assign rfl rfl ?_
  refine J.assign rfl rfl ?_
  refine J.end ?_
  refine X.then ?_
  refine T.seq ?_
  refine T.text [.l, .l] rfl ?_
  refine J.move rfl rfl ?_
  refine J.neq rfl rfl rfl (decide_eq_false (by first | omega | rfl | assumption | (simp only [*]; done))) ?_
  refine J.end ?_
  refine X.then ?_
  refine T.cond_false rfl ?_
  refine T.skip ?_
  refine X.then ?_
  refine T.seq ?_
  refine T.text [.l] rfl ?_
  refine J.assign rfl rfl ?_
  refine J.end ?_
  refine X.then ?_
  refine T.seq ?_
  refine T.block ?_
  refine T.snap [] (by repeat (first | exact Sub.nil _ | refine Sub.cons (by first | rfl | (rw [dgs_zero]; rfl) | (rw [List.drop_length]; rfl) | (simp; done) | (congr 2; omega) | (congr 3; omega)) ?_ | exact Sub.refl _ | refine sub_snap ?_ rfl)) rfl (fun Wl1 hWWl1 => ?_)
  have kpWl1 := (keep_base (B0 := B) (l1 := []) hn (fun g hg => by cases hg) hWWl1 (Sub.nil _) rfl)
  have ha := ha.keep kpWl1
  have hb := hb.keep kpWl1
  have hVWl1 := hWWl1.sub (Sub.nil _)
  refine T.loop (ι := World × Nat × Option Addr × Nat × Option Addr × Nat × Value) (fun ((W, k, A, cc, E, ee, v) : World × Nat × Option Addr × Nat × Option Addr × Nat × Value) => k ≤ 1 ∧ (k = 1 → some ⟨gA, 0, none⟩ = A ∧ cA = cc ∧ some ⟨gB, 0, none⟩ = E ∧ cB = ee ∧ Value.slice none 0 0 = v) ∧ (k = 0 → ∃ q : List Ch × RowIx, (q.1.map Ch.v = bt a b 4 ∧ q.2.Ok 35 q.1.length ∧ Fit W n (B ++ []) (hdOf q.2.id) (rowC q.1) ∧ AllC W n (B ++ []) q.1) ∧ v = q.2.val q.1.length) ∧ WS w [] [] W ∧ a.Ok W n (B ++ []) ∧ b.Ok W n (B ++ [])) (fun ((W, k, A, cc, E, ee, v) : World × Nat × Option Addr × Nat × Option Addr × Nat × Value) => [(4, .slice none 0 0), (5, .int .i64 0), (0, .slice A k cc), (1, .slice E k ee), (10, v)]) (fun ((W, k, A, cc, E, ee, v) : World × Nat × Option Addr × Nat × Option Addr × Nat × Value) => (snapL W w.heap.size [])) (fun ((W, k, A, cc, E, ee, v) : World × Nat × Option Addr × Nat × Option Addr × Nat × Value) => k) ⟨Wl1, 1, some ⟨gA, 0, none⟩, cA, some ⟨gB, 0, none⟩, cB, .slice none 0 0⟩ ⟨Nat.le_refl _, fun _ => ⟨rfl, rfl, rfl, rfl, rfl⟩, fun q => (by cases q), hVWl1, ha, hb⟩ (by repeat (first | exact Sub.nil _ | refine Sub.cons (by first | rfl | (rw [dgs_zero]; rfl) | (rw [List.drop_length]; rfl) | (simp; done) | (congr 2; omega) | (congr 3; omega)) ?_ | exact Sub.refl _ | refine sub_snap ?_ rfl)) (by repeat (first | exact Sub.nil _ | refine Sub.cons (by first | rfl | (rw [dgs_zero]; rfl) | (rw [List.drop_length]; rfl) | (simp; done) | (congr 2; omega) | (congr 3; omega)) ?_ | exact Sub.refl _ | refine sub_snap ?_ rfl)) ?_
  rintro ⟨W, k, A, cc, E, ee, v⟩ ⟨hk, hk1, hk0, hV, ha, hb⟩
  try dsimp only at *
  refine T.seq ?_
  refine T.seq ?_
  refine T.text [.l, .l, .l, .l, .l, .l, .l, .l] rfl ?_
  refine J.move rfl rfl ?_
  refine J.lenSl Tryz.underlying22 rfl rfl ?_
  refine J.gtr rfl rfl rfl rfl ?_
  refine J.move rfl rfl ?_
  refine J.split 33 rfl (fun h2 => ?_) (fun h2 => ?_)
  · obtain rfl : k = 1 := by omega
    obtain ⟨rfl, rfl, rfl, rfl, rfl⟩ := hk1 rfl
    refine J.no rfl rfl rfl rfl ?_
    refine J.no rfl rfl rfl rfl ?_
    refine J.no rfl rfl rfl rfl ?_
    refine J.pick_t rfl rfl rfl ?_
    refine J.end ?_
    refine X.then ?_
    refine T.cond_true rfl ?_
    refine T.skip ?_
    refine X.then ?_
    refine T.block ?_
    refine T.seq ?_
    refine T.text [.l] rfl ?_
    refine J.assign rfl rfl ?_
    refine J.end ?_
    refine X.then ?_
    refine T.seq ?_
    refine T.block ?_
    refine T.seq ?_
    refine T.text [.l, .l, .l, .l] rfl ?_
    refine J.move rfl rfl ?_
    refine J.lenSl Tryz.underlying22 rfl rfl ?_
    refine J.eql rfl rfl rfl (decide_eq_false (by first | omega | rfl | assumption | (simp only [*]; done))) ?_
    refine J.assign rfl rfl ?_
    refine J.end ?_
    refine X.then ?_
    refine T.cond_false rfl ?_
    refine T.seq ?_
    refine T.text [.l, .l, .l, .l] rfl ?_
    refine J.move rfl rfl ?_
    refine J.lenSl Tryz.underlying22 rfl rfl ?_
    refine J.eql rfl rfl rfl (decide_eq_false (by first | omega | rfl | assumption | (simp only [*]; done))) ?_
    refine J.assign rfl rfl ?_
    refine J.end ?_
    refine X.then ?_
    refine T.cond_false rfl ?_
    refine T.draw [] [(0, .g), (1, .g), (2, .g), (3, .g), (4, .g), (5, .g), (6, .g), (7, .g), (8, .q), (9, .g)] (by kernel_rfl) (by kernel_rfl) ?_ (by repeat (first | exact Sub.nil _ | refine Sub.cons (by first | rfl | (rw [dgs_zero]; rfl) | (rw [List.drop_length]; rfl) | (simp; done) | (congr 2; omega) | (congr 3; omega)) ?_ | exact Sub.refl _ | refine sub_snap ?_ rfl))
    refine J.move rfl rfl ?_
    refine J.indexSlI sl22 rfl (hA.isSome (by rw [rowA_length]; simp)) rfl (by omega) (by omega) (by rfl) rfl ?_
    refine J.fieldAddrI fld56_0 rfl rfl ?_
    refine J.as 40 (.pointer (some ⟨gA, 0, none⟩)) rfl (by rfl) ?_
    refine J.sliceArr arr47 rfl optInt.none optInt.none optInt.none (by simp) (by omega) (by omega) (by omega) rfl rfl ?_
    refine J.move rfl rfl ?_
    refine J.indexSlI sl22 rfl (hD.isSome (by rw [rowA_length]; simp)) rfl (by omega) (by omega) (by rfl) rfl ?_
    refine J.fieldAddrI fld56_0 rfl rfl ?_
    refine J.as 44 (.pointer (some ⟨gB, 0, none⟩)) rfl (by rfl) ?_
    refine J.sliceArr arr47 rfl optInt.none optInt.none optInt.none (by simp) (by omega) (by omega) (by omega) rfl rfl ?_
    refine J.call0 (k := .q) trivial fok40 rfl rfl (fun w hw => Da.Compare w _ _ _ _ (adL a.who) (adL b.who) (row_acA (hA.ws hw (off_nil _))) (row_acA (hD.ws hw (off_nil _))) (adL_dg _) (adL_dg _)) ?_
    refine J.as 46 (.int .i64 0) rfl (by rw [cmp_ad, cmpZ_eq (by rw [hwho])]) ?_
    refine J.assign rfl rfl ?_
    refine J.end ?_
    refine X.inBlock (X.then ?_)
    refine T.seq ?_
    refine T.text [.l, .l] rfl ?_
    refine J.alloc 12 rfl zero56 [.int .u8 0, .int .u8 0, .int .u8 0, .int .u8 0, .int .u8 0, .int .u8 0, .int .u8 0, .int .u8 0, .int .u8 0, .int .u8 0, .int .u8 0, .int .u8 0, .int .u8 0, .int .u8 0, .int .u8 0, .int .u8 0, .int .u8 0, .int .u8 0, .int .u8 0, .int .u8 0, .int .u64 0, .int .u64 0, .int .u64 0, .int .u64 0, .int .u64 0, .slice none 0 0, .slice none 0 0] rfl rfl (fun g12 hg12 => ?_)
    refine J.alloc 13 rfl zero56 [.int .u8 0, .int .u8 0, .int .u8 0, .int .u8 0, .int .u8 0, .int .u8 0, .int .u8 0, .int .u8 0, .int .u8 0, .int .u8 0, .int .u8 0, .int .u8 0, .int .u8 0, .int .u8 0, .int .u8 0, .int .u8 0, .int .u8 0, .int .u8 0, .int .u8 0, .int .u8 0, .int .u64 0, .int .u64 0, .int .u64 0, .int .u64 0, .int .u64 0, .slice none 0 0, .slice none 0 0] rfl rfl (fun g13 hg13 => ?_)
    refine J.end ?_
    refine X.then ?_
    refine T.seq ?_
    refine T.seq ?_
    refine T.text [.l, .l] rfl ?_
    refine J.move rfl rfl ?_
    refine J.leq rfl rfl rfl (decide_eq_true (by first | omega | rfl | assumption | (simp only [*]; done))) ?_
    refine J.end ?_
    refine X.then ?_
    refine T.cond_true rfl ?_
    refine T.seq ?_
    refine T.draw [] [(0, .g), (1, .g), (2, .q), (3, .g), (4, .g), (5, .l), (6, .g)] (by kernel_rfl) (by kernel_rfl) ?_ (by repeat (first | exact Sub.nil _ | refine Sub.cons (by first | rfl | (rw [dgs_zero]; rfl) | (rw [List.drop_length]; rfl) | (simp; done) | (congr 2; omega) | (congr 3; omega)) ?_ | exact Sub.refl _ | refine sub_snap ?_ rfl))
    refine J.move rfl rfl ?_
    refine J.indexSlI sl22 rfl (hA.isSome (by rw [rowA_length]; simp)) rfl (by omega) (by omega) (by rfl) rfl ?_
    refine J.loadIN (k := .q) trivial hA (off_nil _) rfl agg56 (a.cells) rfl (by rfl) rfl ?_
    refine J.move rfl rfl ?_
    refine J.sliceSl sl22 rfl (optInt.some rfl (by omega) (by rfl)) optInt.none optInt.none (by simp) (by omega) (by omega) (by omega) rfl rfl ?_
    refine J.store 12 rfl rfl rfl rfl (a.cells) rfl sz56 (Nat.le_of_ble_eq_true rfl) (by first | exact Ac.cells_one _ | exact Ch.cells_one _) (Nat.zero_lt_succ _) trivial (a.cells) rfl ?_
    refine J.assign rfl rfl ?_
    refine J.end ?_
    refine X.then ?_
    refine T.text [.l, .l, .l, .l] rfl ?_
    refine J.fieldAddr fld56_0 rfl rfl ?_
    refine J.loadN (k := .l) trivial 12 rfl rfl agg47 (ac a.who) rfl rfl rfl ?_
    refine J.fieldAddr fld56_0 rfl rfl ?_
    refine J.store 13 rfl rfl rfl rfl (ac a.who) rfl sz47 (by first | decide | exact Nat.le_refl _ | exact Nat.le_of_ble_eq_true rfl | (simp [rowN]; done) | (simp [rowN]; omega)) (by first | exact rowN_one _ _ | (simp; done) | (intro u hu; simp at hu; subst hu; rfl) | (intro u hu; simp at hu; rcases hu with rfl | rfl <;> rfl)) (by first | decide | exact Nat.zero_lt_succ _ | simp) trivial (ac a.who ++ [.int .u64 0, .int .u64 0, .int .u64 0, .int .u64 0, .int .u64 0, .slice none 0 0, .slice none 0 0]) rfl ?_
    refine J.end ?_
    refine X.then ?_
    refine T.seq ?_
    refine T.seq ?_
    refine T.text [.l, .l] rfl ?_
    refine J.move rfl rfl ?_
    refine J.geq rfl rfl rfl (decide_eq_true (by first | omega | rfl | assumption | (simp only [*]; done))) ?_
    refine J.end ?_
    refine X.then ?_
    refine T.cond_true rfl ?_
    refine T.seq ?_
    refine T.draw [] [(0, .g), (1, .g), (2, .q), (3, .g), (4, .g), (5, .l), (6, .g)] (by kernel_rfl) (by kernel_rfl) ?_ (by repeat (first | exact Sub.nil _ | refine Sub.cons (by first | rfl | (rw [dgs_zero]; rfl) | (rw [List.drop_length]; rfl) | (simp; done) | (congr 2; omega) | (congr 3; omega)) ?_ | exact Sub.refl _ | refine sub_snap ?_ rfl))
    refine J.move rfl rfl ?_
    refine J.indexSlI sl22 rfl (hD.isSome (by rw [rowA_length]; simp)) rfl (by omega) (by omega) (by rfl) rfl ?_
    refine J.loadIN (k := .q) trivial hD (off_nil _) rfl agg56 (b.cells) rfl (by rfl) rfl ?_
    refine J.move rfl rfl ?_
    refine J.sliceSl sl22 rfl (optInt.some rfl (by omega) (by rfl)) optInt.none optInt.none (by simp) (by omega) (by omega) (by omega) rfl rfl ?_
    refine J.store 13 rfl rfl rfl rfl (b.cells) rfl sz56 (Nat.le_of_ble_eq_true rfl) (by first | exact Ac.cells_one _ | exact Ch.cells_one _) (Nat.zero_lt_succ _) trivial (b.cells) rfl ?_
    refine J.assign rfl rfl ?_
    refine J.end ?_
    refine X.then ?_
    refine T.text [.l, .l, .l, .l] rfl ?_
    refine J.fieldAddr fld56_0 rfl rfl ?_
    refine J.loadN (k := .l) trivial 13 rfl rfl agg47 (ac b.who) rfl rfl rfl ?_
    refine J.fieldAddr fld56_0 rfl rfl ?_
    refine J.store 12 rfl rfl rfl rfl (ac b.who) rfl sz47 (by first | decide | exact Nat.le_refl _ | exact Nat.le_of_ble_eq_true rfl | (simp [rowN]; done) | (simp [rowN]; omega)) (by first | exact rowN_one _ _ | (simp; done) | (intro u hu; simp at hu; subst hu; rfl) | (intro u hu; simp at hu; rcases hu with rfl | rfl <;> rfl)) (by first | decide | exact Nat.zero_lt_succ _ | simp) trivial ((Ac.mk b.who a.nonce a.bal a.code a.sl a.cA a.cC a.sA a.sC).cells) rfl ?_
    refine J.end ?_
    refine X.asE 12 ⟨some g12, 56, a.cells⟩ rfl (by first | (rw [← hwho]; done) | (rw [← hwho]; rfl)) ?_
    refine X.then ?_
    refine T.text [.l, .l, .l, .l, .l] rfl ?_
    refine J.move rfl rfl ?_
    refine J.loadN (k := .l) trivial 12 rfl rfl agg56 (a.cells) rfl rfl rfl ?_
    refine J.loadN (k := .l) trivial 13 rfl rfl agg56 (b.cells) rfl rfl rfl ?_
    refine J.callB fok41 rfl rfl _ _ [(12, ⟨some g12, 56, a.cells⟩), (13, ⟨some g13, 56, (b.cells)⟩)] (by repeat (first | exact Sub.nil _ | refine Sub.cons (by first | rfl | (rw [dgs_zero]; rfl) | (rw [List.drop_length]; rfl) | (simp; done) | (congr 2; omega) | (congr 3; omega)) ?_ | exact Sub.refl _ | refine sub_snap ?_ rfl)) rfl (fun _ _ => Sub.nil _) (fun w hw => Dm.between w n (B ++ ids [(12, ⟨some g12, 56, a.cells⟩), (13, ⟨some g13, 56, (b.cells)⟩)]) a b (Nat.le_trans hn hw.size) (busy_lt (l1 := [(12, ⟨some g12, 56, a.cells⟩), (13, ⟨some g13, 56, (b.cells)⟩)]) hB hw (by repeat (first | exact Sub.nil _ | refine Sub.cons (by first | rfl | (rw [dgs_zero]; rfl) | (rw [List.drop_length]; rfl) | (simp; done) | (congr 2; omega) | (congr 3; omega)) ?_ | exact Sub.refl _ | refine sub_snap ?_ rfl)) rfl) (ha.keep (keep_snap (I := []) (B0 := B) (l1 := [(12, ⟨some g12, 56, a.cells⟩), (13, ⟨some g13, 56, (b.cells)⟩)]) hV hn (fun g hg => by cases hg) hw (by repeat (first | exact Sub.refl _ | refine sub_snap ?_ rfl)) (by repeat (first | exact Sub.nil _ | refine Sub.cons (by first | rfl | (rw [dgs_zero]; rfl) | (rw [List.drop_length]; rfl) | (simp; done) | (congr 2; omega) | (congr 3; omega)) ?_ | exact Sub.refl _ | refine sub_snap ?_ rfl)) rfl)) (hb.keep (keep_snap (I := []) (B0 := B) (l1 := [(12, ⟨some g12, 56, a.cells⟩), (13, ⟨some g13, 56, (b.cells)⟩)]) hV hn (fun g hg => by cases hg) hw (by repeat (first | exact Sub.refl _ | refine sub_snap ?_ rfl)) (by repeat (first | exact Sub.nil _ | refine Sub.cons (by first | rfl | (rw [dgs_zero]; rfl) | (rw [List.drop_length]; rfl) | (simp; done) | (congr 2; omega) | (congr 3; omega)) ?_ | exact Sub.refl _ | refine sub_snap ?_ rfl)) rfl)) hsa hsb) (fun i78 W78 hP78 hW78 => ?_)
    obtain ⟨hv78, hr78, hf78, hc78⟩ := hP78
    have kpW78 := (keep_snap (I := []) (B0 := B) (l1 := [(12, ⟨some g12, 56, a.cells⟩), (13, ⟨some g13, 56, (b.cells)⟩)]) hV hn (fun g hg => by cases hg) hW78 (by repeat (first | exact Sub.refl _ | refine sub_snap ?_ rfl)) (by repeat (first | exact Sub.nil _ | refine Sub.cons (by first | rfl | (rw [dgs_zero]; rfl) | (rw [List.drop_length]; rfl) | (simp; done) | (congr 2; omega) | (congr 3; omega)) ?_ | exact Sub.refl _ | refine sub_snap ?_ rfl)) rfl)
    have ha := ha.keep kpW78
    have hb := hb.keep kpW78
    have hVW78 := hW78.sub (Sub.nil _)
    refine J.assign rfl rfl ?_
    refine J.end ?_
    refine X.inBlock ?_
    refine X.snap [] (by repeat (first | exact Sub.nil _ | refine Sub.cons (by first | rfl | (rw [dgs_zero]; rfl) | (rw [List.drop_length]; rfl) | (simp; done) | (congr 2; omega) | (congr 3; omega)) ?_ | exact Sub.refl _ | refine sub_snap ?_ rfl)) rfl (fun Wx3 hWWx3 => ?_)
    have kpWx3 := (keep_snap (I := [some g12, some g13]) (B0 := B) (l1 := []) hVW78 hn (fun g hg => by cases hg) hWWx3 (by repeat (first | exact Sub.refl _ | refine sub_snap ?_ rfl)) (Sub.nil _) rfl)
    have ha := ha.keep kpWx3
    have hb := hb.keep kpWx3
    have hf78 := hf78.keep kpWx3
    have hc78 := hc78.keep kpWx3
    have hVWx3 := hWWx3.sub (Sub.nil _)
    exact X.round ⟨Wx3, 0, (if cA = 1 then some ⟨gA, 0, none⟩ else (some ⟨gA, 0, none⟩ : Option Addr).map (·.add (1 * 27))), (cA - 1), (if cB = 1 then some ⟨gB, 0, none⟩ else (some ⟨gB, 0, none⟩ : Option Addr).map (·.add (1 * 27))), (cB - 1), (i78.2.val i78.1.length)⟩ ⟨Nat.zero_le _, fun q => (by cases q), fun _ => ⟨i78, ⟨hv78, hr78, hf78, hc78⟩, rfl⟩, hVWx3, ha, hb⟩ (by show 0 < 1; omega) (by repeat (first | exact Sub.nil _ | refine Sub.cons (by first | rfl | (rw [dgs_zero]; rfl) | (rw [List.drop_length]; rfl) | (simp; done) | (congr 2; omega) | (congr 3; omega)) ?_ | exact Sub.refl _ | refine sub_snap ?_ rfl)) (by repeat (first | exact Sub.nil _ | refine Sub.cons (by first | rfl | (rw [dgs_zero]; rfl) | (rw [List.drop_length]; rfl) | (simp; done) | (congr 2; omega) | (congr 3; omega)) ?_ | exact Sub.refl _ | refine sub_snap ?_ rfl))
  · obtain rfl : k = 0 := by omega
    obtain ⟨q, ⟨hq1, hq2, hq3, hq4⟩, rfl⟩ := hk0 rfl
    refine J.yes rfl rfl ?_
    refine J.move rfl rfl ?_
    refine J.yes rfl rfl ?_
    refine J.lenSl Tryz.underlying22 rfl rfl ?_
    refine J.yes rfl rfl ?_
    refine J.gtr rfl rfl rfl (decide_eq_false (by first | omega | rfl | assumption | (simp only [*]; done))) ?_
    refine J.pick_f rfl rfl rfl ?_
    refine J.end ?_
    refine X.then ?_
    refine T.cond_false rfl ?_
    refine T.exit ?_
    refine X.then_exit (X.then_exit (X.inBlock_eq (X.then ?_)))
    refine T.seq ?_
    refine T.text [.l, .l, .l] rfl ?_
    refine J.move rfl rfl ?_
    refine J.assign rfl rfl ?_
    refine J.assign rfl rfl ?_
    refine J.end ?_
    refine X.then ?_
    refine T.ret ?_
    exact X.ret2 rfl (RV.tmp rfl) (RV.tmp rfl) (fun w' hw' => ⟨q, ⟨hq1, hq2, hq3.keep (((keep_snap (I := []) (B0 := B) (l1 := []) hV hn (fun g hg => by cases hg) hw' (by repeat (first | exact Sub.refl _ | refine sub_snap ?_ rfl)) (Sub.nil _) rfl)).le (fun o h => List.mem_append_left _ h)), hq4.keep (((keep_snap (I := []) (B0 := B) (l1 := []) hV hn (fun g hg => by cases hg) hw' (by repeat (first | exact Sub.refl _ | refine sub_snap ?_ rfl)) (Sub.nil _) rfl)).le (fun o h => List.mem_append_left _ h))⟩, rfl, hw'.sub (Sub.nil _)⟩)
end Go.Proofs.YtlllcafedekojaaGreatDoor.Do
set_option linter.unusedVariables false
set_option maxRecDepth 20000
namespace Go.Proofs.YtlllcafedekojaaGreatDoor.Dp
open Go Go.Fw

theorem sz287 : SizeT Tryz.prog 287 32 := (by unfold SizeT; kernel_rfl)
theorem fok85 : FnOk Tryz.prog 85 := FnOk.mk' Tryz.func85 (by kernel_rfl) rfl
theorem fok86 : FnOk Tryz.prog 86 := FnOk.mk' Tryz.func86 (by kernel_rfl) rfl
theorem one26 : OneT Tryz.prog 26 := ⟨⟨_, Tryz.underlying26, rfl⟩, by kernel_rfl⟩
theorem one22 : OneT Tryz.prog 22 := ⟨⟨_, Tryz.underlying22, rfl⟩, by kernel_rfl⟩
theorem fok35 : FnOk Tryz.prog 35 := FnOk.mk' Tryz.func35 (by kernel_rfl) rfl
theorem sz26 : SizeT Tryz.prog 26 1 := (by unfold SizeT; kernel_rfl)
theorem zero22 : ZeroT Tryz.prog 22 (.slice none 0 0) := (by unfold ZeroT; kernel_rfl)
theorem zero26 : ZeroT Tryz.prog 26 (.int .i64 0) := (by unfold ZeroT; kernel_rfl)
theorem fok49 : FnOk Tryz.prog 49 := FnOk.mk' Tryz.func49 (by kernel_rfl) rfl
theorem zero56 : ZeroT Tryz.prog 56 (.agg ([.int .u8 0, .int .u8 0, .int .u8 0, .int .u8 0, .int .u8 0, .int .u8 0, .int .u8 0, .int .u8 0, .int .u8 0, .int .u8 0, .int .u8 0, .int .u8 0, .int .u8 0, .int .u8 0, .int .u8 0, .int .u8 0, .int .u8 0, .int .u8 0, .int .u8 0, .int .u8 0, .int .u64 0, .int .u64 0, .int .u64 0, .int .u64 0, .int .u64 0, .slice none 0 0, .slice none 0 0]).toArray) := (by unfold ZeroT; kernel_rfl)
theorem sz53 : SizeT Tryz.prog 53 35 := (by unfold SizeT; kernel_rfl)
theorem sl25 : SlT Tryz.prog 25 53 35 := ⟨Tryz.underlying25, sz53⟩
theorem sz47 : SizeT Tryz.prog 47 20 := (by unfold SizeT; kernel_rfl)
theorem fld53_0 : FldT Tryz.prog 53 0 47 0 19 := ⟨by kernel_rfl, sz47⟩
theorem sz5 : SizeT Tryz.prog 5 1 := (by unfold SizeT; kernel_rfl)
theorem arr47 : ArrT Tryz.prog 47 20 5 1 := ⟨Tryz.underlying47, sz5⟩
theorem sz56 : SizeT Tryz.prog 56 27 := (by unfold SizeT; kernel_rfl)
theorem sl22 : SlT Tryz.prog 22 56 27 := ⟨Tryz.underlying22, sz56⟩
theorem fld56_0 : FldT Tryz.prog 56 0 47 0 19 := ⟨by kernel_rfl, sz47⟩
theorem fok40 : FnOk Tryz.prog 40 := FnOk.mk' Tryz.func40 (by kernel_rfl) rfl
theorem agg56 : AggT Tryz.prog 56 27 := ⟨⟨_, Tryz.underlying56, rfl⟩, by kernel_rfl⟩
theorem agg47 : AggT Tryz.prog 47 20 := ⟨⟨_, Tryz.underlying47, rfl⟩, by kernel_rfl⟩
theorem one5 : OneT Tryz.prog 5 := ⟨⟨_, Tryz.underlying5, rfl⟩, by kernel_rfl⟩
theorem eqA47 : EqA Tryz.prog 47 20 := ⟨⟨5, arr47, one5, Tryz.underlying5⟩, by kernel_rfl⟩
theorem fok51 : FnOk Tryz.prog 51 := FnOk.mk' Tryz.func51 (by kernel_rfl) rfl
theorem fok52 : FnOk Tryz.prog 52 := FnOk.mk' Tryz.func52 (by kernel_rfl) rfl
theorem el56 : ElT Tryz.prog 56 27 112 (.agg ([.int .u8 0, .int .u8 0, .int .u8 0, .int .u8 0, .int .u8 0, .int .u8 0, .int .u8 0, .int .u8 0, .int .u8 0, .int .u8 0, .int .u8 0, .int .u8 0, .int .u8 0, .int .u8 0, .int .u8 0, .int .u8 0, .int .u8 0, .int .u8 0, .int .u8 0, .int .u8 0, .int .u64 0, .int .u64 0, .int .u64 0, .int .u64 0, .int .u64 0, .slice none 0 0, .slice none 0 0]).toArray) := ⟨by kernel_rfl, rfl, by decide, by decide⟩
theorem sz22 : SizeT Tryz.prog 22 1 := (by unfold SizeT; kernel_rfl)
theorem fok50 : FnOk Tryz.prog 50 := FnOk.mk' Tryz.func50 (by kernel_rfl) rfl

theorem Apply1 (w : World) (ge go : Nat) (A : Option Addr) (c : Nat) (b : Ac) (hcb : b.code.length = 0) (hlb : lookZ b = 0) (hA : Cs w A (rowA [b])) (ho : Off [ge, go] A) (h5 : Ent.At w ⟨some ge, 26, [.int .i64 0]⟩) (h4 : Ent.At w ⟨some go, 22, [.slice A 1 c]⟩) (hne : ge ≠ go) :
    CallsD Tryz.prog 50 [.pointer (some ⟨ge, 0, none⟩), .pointer (some ⟨go, 0, none⟩)].toArray .returning w fun e u w' => u = .returning ∧ ((∃ z, e = .returned z) ∧ WS w [ge, go] [(5, ⟨some ge, 26, [.int .i64 0]⟩), (4, ⟨some go, 22, [.slice A 1 c]⟩)] w') := by
  refine callsD_of_T [ge, go] 11 [(5, ⟨some ge, 26, [.int .i64 0]⟩), (4, ⟨some go, 22, [.slice A 1 c]⟩)] Tryz.func50 rfl Tryz.ntmps50 (by simp) (WS.two54 h5 h4 hne) ?_
  refine T.seq ?_
  refine T.seq ?_
  refine T.text [.l, .l] rfl ?_
  refine J.load1 (k := .l) trivial 5 rfl rfl one26 rfl rfl ?_
  refine J.eql rfl rfl rfl (decide_eq_true (by first | omega | rfl | assumption | (simp only [*]; done))) ?_
  refine J.end ?_
  refine X.then ?_
  refine T.cond_true rfl ?_
  refine T.text [.l, .l, .l, .l, .l, .l] rfl ?_
  refine J.load1 (k := .l) trivial 4 rfl rfl one22 rfl rfl ?_
  refine J.call0 (k := .l) trivial fok35 rfl rfl (fun w hw => Dj.Check w _ _ b (hA.ws hw ho) hcb hlb) ?_
  refine J.move rfl rfl ?_
  refine J.extract rfl rfl rfl ?_
  refine J.extract rfl rfl rfl ?_
  refine J.store 5 rfl rfl rfl rfl [.int .i64 0] rfl sz26 (by first | decide | exact Nat.le_refl _ | exact Nat.le_of_ble_eq_true rfl | (simp [rowN]; done) | (simp [rowN]; omega)) (by intro u hu; rw [List.mem_singleton.1 hu]; rfl) (by first | decide | exact Nat.zero_lt_succ _ | simp) trivial [.int .i64 0] rfl ?_
  refine J.end ?_
  refine X.then ?_
  refine T.seq ?_
  refine T.text [.l, .l] rfl ?_
  refine J.load1 (k := .l) trivial 5 rfl rfl one26 rfl rfl ?_
  refine J.neq rfl rfl rfl (decide_eq_false (by first | omega | rfl | assumption | (simp only [*]; done))) ?_
  refine J.end ?_
  refine X.then ?_
  refine T.cond_false rfl ?_
  refine T.skip ?_
  exact X.end0 rfl (fun w' hw' => ⟨⟨_, rfl⟩, hw'.sub (by repeat (first | exact Sub.nil _ | refine Sub.cons rfl ?_))⟩)

set_option maxHeartbeats 4000000 in
theorem Apply (w : World) (n : Nat) (B : List (Option Nat)) (a : Ac) (c : Ch) (gA gD cA cD : Nat) (hn : n ≤ w.heap.size) (hB : ∀ g, some g ∈ B → g < w.heap.size) (hA : Cs w (some ⟨gA, 0, none⟩) (rowA [a])) (hD : Cs w (some ⟨gD, 0, none⟩) (rowC [c])) (hcA : 1 ≤ cA) (hcD : 1 ≤ cD) (hnn : a.nonce < 18446744073709551616) (hc0 : a.code = []) (hs0 : a.sl.length = 0) (hla : lookZ a = 0) (hcO : c.Ok w n B) (hmay : c.v.may) (hkd : c.kind = 2) (ho : c.oc = []) (hno : c.nc = []) (hbal : a.bal % 2 ^ 256 = c.old % 2 ^ 256) (hnz : c.new % 2 ^ 256 ≠ 0) (hwho : adL c.who = adL a.who) :
    Calls Tryz.prog 24 [.slice (some ⟨gA, 0, none⟩) 1 cA, .slice (some ⟨gD, 0, none⟩) 1 cD].toArray w fun e w' => ∃ q : RowIx × RowIx, (q.2.Ok 27 1 ∧ Fit w' n B (hdOf q.2.id) (rowA [a.moved c.new q.1])) ∧ e = .returned (.tuple #[q.2.val 1, .int .i64 0]) ∧ WS w [] [] w' := by
  have hcm := (cmp_ad c.who a.who).symm.trans (show cmpL (adL c.who) (adL a.who) = 0 by rw [hwho, cmp_ad]; exact cmpZ_eq rfl)
  have hfz : formZ ([c].map Ch.v) = 0 := by show formF none [c.v] = 0; unfold formF; rw [if_neg (fun q => q hmay)]; rfl
  refine calls_of_TD [] 101 [] Tryz.func24 rfl Tryz.ntmps24 (by simp) (WS.refl _ _) ?_
  refine T.seq ?_
  refine T.text [.l, .l] rfl ?_
  refine J.alloc 4 rfl zero22 [.slice none 0 0] rfl rfl (fun g4 hg4 => ?_)
  refine J.alloc 5 rfl zero26 [.int .i64 0] rfl rfl (fun g5 hg5 => ?_)
  refine J.end ?_
  refine X.then ?_
  refine T.seq ?_
  refine T.seq ?_
  refine T.text [.l, .l, .l, .l, .l, .l, .l] rfl ?_
  refine J.move rfl rfl ?_
  refine J.call0 (k := .l) trivial fok35 rfl rfl (fun w hw => Dj.Check w _ _ a (hA.ws hw (off_nil _)) (by rw [hc0]; rfl) hla) ?_
  refine J.move rfl rfl ?_
  refine J.extract rfl rfl rfl ?_
  refine J.extract rfl rfl rfl ?_
  refine J.assign rfl rfl ?_
  refine J.assign rfl rfl ?_
  refine J.end ?_
  refine X.then ?_
  refine T.seq ?_
  refine T.text [.l, .l] rfl ?_
  refine J.move rfl rfl ?_
  refine J.neq rfl rfl rfl (decide_eq_false (by first | omega | rfl | assumption | (simp only [*]; done))) ?_
  refine J.end ?_
  refine X.then ?_
  refine T.cond_false rfl ?_
  refine T.skip ?_
  refine X.then ?_
  refine T.seq ?_
  refine T.seq ?_
  refine T.text [.l, .l, .l] rfl ?_
  refine J.move rfl rfl ?_
  refine J.call0 (k := .l) trivial fok49 rfl rfl (fun w hw => Db.form w n _ _ _ [c] (hD.ws hw (off_nil _)) (AllC.snoc AllC.nil (hcO.keep (keep_base (B0 := B) (l1 := []) hn (fun g hg => by cases hg) hw (Sub.nil _) rfl))) (by simp)) ?_
  refine J.as 21 (.int .i64 0) rfl (by rw [hfz]) ?_
  refine J.assign rfl rfl ?_
  refine J.end ?_
  refine X.then ?_
  refine T.seq ?_
  refine T.text [.l, .l] rfl ?_
  refine J.move rfl rfl ?_
  refine J.neq rfl rfl rfl (decide_eq_false (by first | omega | rfl | assumption | (simp only [*]; done))) ?_
  refine J.end ?_
  refine X.then ?_
  refine T.cond_false rfl ?_
  refine T.skip ?_
  refine X.then ?_
  refine T.seq ?_
  refine T.textD 1 [.l] _ _ rfl rfl rfl ?_
  refine J.makeFunc (vf := []) (vc := [_, _]) rfl rfl rfl ?_
  refine J.putOff rfl ?_
  refine X.then ?_
  refine T.seq ?_
  refine T.block ?_
  refine T.addNil 60 56 ?_
  refine T.loop (ι := Nat × Option Addr × Nat × Option Addr × Nat × RowIx × List Ac) (fun ((k, A, cc, E, ee, r, xs) : Nat × Option Addr × Nat × Option Addr × Nat × RowIx × List Ac) => k ≤ 1 ∧ (k = 1 → some ⟨gA, 0, none⟩ = A ∧ cA = cc ∧ some ⟨gD, 0, none⟩ = E ∧ cD = ee ∧ RowIx.nil = r ∧ ([] : List Ac) = xs) ∧ (k = 0 → r.Ok 27 1 ∧ ∃ q : RowIx, [a.moved c.new q] = xs)) (fun ((k, A, cc, E, ee, r, xs) : Nat × Option Addr × Nat × Option Addr × Nat × RowIx × List Ac) => [(4, .pointer (some ⟨g4, 0, none⟩)), (5, .pointer (some ⟨g5, 0, none⟩)), (25, .func (.func 50) #[] [.pointer (some ⟨g5, 0, none⟩), .pointer (some ⟨g4, 0, none⟩)].toArray), (0, .slice A k cc), (1, .slice E k ee)]) (fun ((k, A, cc, E, ee, r, xs) : Nat × Option Addr × Nat × Option Addr × Nat × RowIx × List Ac) => [(5, ⟨some g5, 26, [.int .i64 0]⟩), (4, ⟨some g4, 22, [r.val xs.length]⟩), (60, r.ent 56 (rowA xs))]) (fun ((k, A, cc, E, ee, r, xs) : Nat × Option Addr × Nat × Option Addr × Nat × RowIx × List Ac) => k) ⟨1, some ⟨gA, 0, none⟩, cA, some ⟨gD, 0, none⟩, cD, RowIx.nil, []⟩ ⟨Nat.le_refl _, fun _ => ⟨rfl, rfl, rfl, rfl, rfl, rfl⟩, fun q => (by cases q)⟩ (by repeat (first | exact Sub.nil _ | refine Sub.cons (by first | rfl | (rw [dgs_zero]; rfl) | (rw [List.drop_length]; rfl) | (simp; done) | (congr 2; omega) | (congr 3; omega)) ?_ | exact Sub.refl _ | refine sub_snap ?_ rfl)) (by repeat (first | exact Sub.nil _ | refine Sub.cons (by first | rfl | (rw [dgs_zero]; rfl) | (rw [List.drop_length]; rfl) | (simp; done) | (congr 2; omega) | (congr 3; omega)) ?_ | exact Sub.refl _ | refine sub_snap ?_ rfl)) ?_
  rintro ⟨k, A, cc, E, ee, r, xs⟩ ⟨hk, hk1, hk0⟩
  try dsimp only at *
  refine T.seq ?_
  refine T.seq ?_
  refine T.text [.l, .l, .l, .l, .l, .l, .l, .l] rfl ?_
  refine J.move rfl rfl ?_
  refine J.lenSl Tryz.underlying22 rfl rfl ?_
  refine J.gtr rfl rfl rfl rfl ?_
  refine J.move rfl rfl ?_
  refine J.split 29 rfl (fun h1 => ?_) (fun h1 => ?_)
  · obtain rfl : k = 1 := by omega
    obtain ⟨rfl, rfl, rfl, rfl, rfl, rfl⟩ := hk1 rfl
    refine J.no rfl rfl rfl rfl ?_
    refine J.no rfl rfl rfl rfl ?_
    refine J.no rfl rfl rfl rfl ?_
    refine J.pick_t rfl rfl rfl ?_
    refine J.end ?_
    refine X.then ?_
    refine T.cond_true rfl ?_
    refine T.skip ?_
    refine X.then ?_
    refine T.block ?_
    refine T.seq ?_
    refine T.text [.l] rfl ?_
    refine J.alloc 9 rfl zero56 [.int .u8 0, .int .u8 0, .int .u8 0, .int .u8 0, .int .u8 0, .int .u8 0, .int .u8 0, .int .u8 0, .int .u8 0, .int .u8 0, .int .u8 0, .int .u8 0, .int .u8 0, .int .u8 0, .int .u8 0, .int .u8 0, .int .u8 0, .int .u8 0, .int .u8 0, .int .u8 0, .int .u64 0, .int .u64 0, .int .u64 0, .int .u64 0, .int .u64 0, .slice none 0 0, .slice none 0 0] rfl rfl (fun g9 hg9 => ?_)
    refine J.end ?_
    refine X.then ?_
    refine T.seq ?_
    refine T.seq ?_
    refine T.draw [] [(0, .g), (1, .g), (2, .g), (3, .g), (4, .g), (5, .g), (6, .g), (7, .g), (8, .g), (9, .g), (10, .g), (11, .g), (12, .g), (13, .g), (14, .g), (15, .g), (16, .q), (17, .g), (18, .g), (19, .g)] (by kernel_rfl) (by kernel_rfl) ?_ (by repeat (first | exact Sub.nil _ | refine Sub.cons (by first | rfl | (rw [dgs_zero]; rfl) | (rw [List.drop_length]; rfl) | (simp; done) | (congr 2; omega) | (congr 3; omega)) ?_ | exact Sub.refl _ | refine sub_snap ?_ rfl))
    refine J.move rfl rfl ?_
    refine J.lenSl Tryz.underlying22 rfl rfl ?_
    refine J.eql rfl rfl rfl (decide_eq_false (by first | omega | rfl | assumption | (simp only [*]; done))) ?_
    refine J.move rfl rfl ?_
    refine J.yes rfl rfl ?_
    refine J.move rfl rfl ?_
    refine J.yes rfl rfl ?_
    refine J.lenSl Tryz.underlying25 rfl rfl ?_
    refine J.yes rfl rfl ?_
    refine J.gtr rfl rfl rfl (decide_eq_true (by first | omega | rfl | assumption | (simp only [*]; done))) ?_
    refine J.yes rfl rfl ?_
    refine J.move rfl rfl ?_
    refine J.yes rfl rfl ?_
    refine J.move rfl rfl ?_
    refine J.yes rfl rfl ?_
    refine J.indexSlI sl25 rfl (hD.isSome (by rw [rowC_length]; simp)) rfl (by omega) (by omega) (by rfl) rfl ?_
    refine J.yes rfl rfl ?_
    refine J.fieldAddrI fld53_0 rfl rfl ?_
    refine J.as 44 (.pointer (some ⟨gD, 0, none⟩)) rfl (by rfl) ?_
    refine J.yes rfl rfl ?_
    refine J.sliceArr arr47 rfl optInt.none optInt.none optInt.none (by simp) (by omega) (by omega) (by omega) rfl rfl ?_
    refine J.yes rfl rfl ?_
    refine J.move rfl rfl ?_
    refine J.yes rfl rfl ?_
    refine J.indexSlI sl22 rfl (hA.isSome (by rw [rowA_length]; simp)) rfl (by omega) (by omega) (by rfl) rfl ?_
    refine J.yes rfl rfl ?_
    refine J.fieldAddrI fld56_0 rfl rfl ?_
    refine J.as 48 (.pointer (some ⟨gA, 0, none⟩)) rfl (by rfl) ?_
    refine J.yes rfl rfl ?_
    refine J.sliceArr arr47 rfl optInt.none optInt.none optInt.none (by simp) (by omega) (by omega) (by omega) rfl rfl ?_
    refine J.yes rfl rfl ?_
    refine J.call0 (k := .q) trivial fok40 rfl rfl (fun w hw => Da.Compare w _ _ _ _ (adL c.who) (adL a.who) (row_acC (hD.ws hw (off_nil _))) (row_acA (hA.ws hw (off_nil _))) (adL_dg _) (adL_dg _)) ?_
    refine J.as 50 (.int .i64 0) rfl (by rw [cmp_ad, hcm]) ?_
    refine J.yes rfl rfl ?_
    refine J.lss rfl rfl rfl (decide_eq_false (by first | omega | rfl | assumption | (simp only [*]; done))) ?_
    refine J.yes rfl rfl ?_
    refine J.pick_t rfl rfl rfl ?_
    refine J.pick_f rfl rfl rfl ?_
    refine J.end ?_
    refine X.then ?_
    refine T.cond_false rfl ?_
    refine T.draw [] [(0, .g), (1, .g), (2, .q), (3, .g), (4, .g), (5, .l), (6, .g)] (by kernel_rfl) (by kernel_rfl) ?_ (by repeat (first | exact Sub.nil _ | refine Sub.cons (by first | rfl | (rw [dgs_zero]; rfl) | (rw [List.drop_length]; rfl) | (simp; done) | (congr 2; omega) | (congr 3; omega)) ?_ | exact Sub.refl _ | refine sub_snap ?_ rfl))
    refine J.move rfl rfl ?_
    refine J.indexSlI sl22 rfl (hA.isSome (by rw [rowA_length]; simp)) rfl (by omega) (by omega) (by rfl) rfl ?_
    refine J.loadIN (k := .q) trivial hA (off_nil _) rfl agg56 (a.cells) rfl (by rfl) rfl ?_
    refine J.move rfl rfl ?_
    refine J.sliceSl sl22 rfl (optInt.some rfl (by omega) (by rfl)) optInt.none optInt.none (by simp) (by omega) (by omega) (by omega) rfl rfl ?_
    refine J.store 9 rfl rfl rfl rfl (a.cells) rfl sz56 (Nat.le_of_ble_eq_true rfl) (by first | exact Ac.cells_one _ | exact Ch.cells_one _) (Nat.zero_lt_succ _) trivial (a.cells) rfl ?_
    refine J.assign rfl rfl ?_
    refine J.end ?_
    refine X.then ?_
    refine T.seq ?_
    refine T.text [.l] rfl ?_
    refine J.assign rfl rfl ?_
    refine J.end ?_
    refine X.then ?_
    refine T.seq ?_
    refine T.block ?_
    refine T.loop (ι := Nat) (fun (j : Nat) => j ≤ 1) (fun (j : Nat) => [(4, .pointer (some ⟨g4, 0, none⟩)), (5, .pointer (some ⟨g5, 0, none⟩)), (25, .func (.func 50) #[] [.pointer (some ⟨g5, 0, none⟩), .pointer (some ⟨g4, 0, none⟩)].toArray), (0, .slice (if cA = 1 then some ⟨gA, 0, none⟩ else (some ⟨gA, 0, none⟩ : Option Addr).map (·.add (1 * 27))) 0 (cA - 1)), (1, .slice (some ⟨gD, 0, none⟩) 1 cD), (9, .pointer (some ⟨g9, 0, none⟩)), (10, .int .i64 (j : Int))]) (fun (j : Nat) => [(5, ⟨some g5, 26, [.int .i64 0]⟩), (4, ⟨some g4, 22, [RowIx.nil.val [].length]⟩), (60, RowIx.nil.ent 56 (rowA [])), (9, ⟨some g9, 56, (a.cells)⟩)]) (fun (j : Nat) => 1 - j) 0 (Nat.zero_le _) (by repeat (first | exact Sub.nil _ | refine Sub.cons (by first | rfl | (rw [dgs_zero]; rfl) | (rw [List.drop_length]; rfl) | (simp; done) | (congr 2; omega) | (congr 3; omega)) ?_ | exact Sub.refl _ | refine sub_snap ?_ rfl)) (by repeat (first | exact Sub.nil _ | refine Sub.cons (by first | rfl | (rw [dgs_zero]; rfl) | (rw [List.drop_length]; rfl) | (simp; done) | (congr 2; omega) | (congr 3; omega)) ?_ | exact Sub.refl _ | refine sub_snap ?_ rfl)) ?_
    rintro j hj
    refine T.seq ?_
    refine T.seq ?_
    refine T.draw [] [(0, .g), (1, .g), (2, .g), (3, .g), (4, .g), (5, .g), (6, .g), (7, .g), (8, .g), (9, .q), (10, .g), (11, .q), (12, .g), (13, .g)] (by kernel_rfl) (by kernel_rfl) ?_ (by repeat (first | exact Sub.nil _ | refine Sub.cons (by first | rfl | (rw [dgs_zero]; rfl) | (rw [List.drop_length]; rfl) | (simp; done) | (congr 2; omega) | (congr 3; omega)) ?_ | exact Sub.refl _ | refine sub_snap ?_ rfl))
    refine J.move rfl rfl ?_
    refine J.move rfl rfl ?_
    refine J.lenSl Tryz.underlying25 rfl rfl ?_
    refine J.lss rfl rfl rfl rfl ?_
    refine J.move rfl rfl ?_
    refine J.split 68 rfl (fun h2 => ?_) (fun h2 => ?_)
    · obtain rfl : j = 0 := by omega
      refine J.yes rfl rfl ?_
      refine J.move rfl rfl ?_
      refine J.yes rfl rfl ?_
      refine J.move rfl rfl ?_
      refine J.yes rfl rfl ?_
      refine J.indexSlI sl25 rfl (hD.isSome (by rw [rowC_length]; simp)) rfl (by omega) (by omega) (by first | exact Int.toNat_natCast _ | rfl) rfl ?_
      refine J.yes rfl rfl ?_
      refine J.fieldAddrI fld53_0 rfl rfl ?_
      refine J.yes rfl rfl ?_
      refine J.loadIN (k := .q) trivial hD (off_nil _) rfl agg47 (ac c.who) rfl (by rfl) rfl ?_
      refine J.yes rfl rfl ?_
      refine J.fieldAddr fld56_0 rfl rfl ?_
      refine J.yes rfl rfl ?_
      refine J.loadN (k := .q) trivial 9 rfl rfl agg47 (ac a.who) rfl rfl rfl ?_
      refine J.yes rfl rfl ?_
      refine J.eqA eqA47 rfl rfl (by rfl) (by rfl) rfl ?_
      refine J.as 76 (.bool true) rfl (by rw [decide_eq_true hwho]) ?_
      refine J.pick_t rfl rfl rfl ?_
      refine J.end ?_
      refine X.then ?_
      refine T.cond_true rfl ?_
      refine T.skip ?_
      refine X.then ?_
      refine T.block ?_
      refine T.text [.l, .l, .l] rfl ?_
      refine J.move rfl rfl ?_
      refine J.add rfl rfl rfl (by first | exact add_nat _ 1 (by omega) | exact i64_ok _ (by omega) | exact rfl) ?_
      refine J.assign rfl rfl ?_
      refine J.end ?_
      refine X.inBlock ?_
      exact X.round (0 + 1) (Nat.le_refl _) (by first | omega | (dsimp only; omega)) (by repeat (first | exact Sub.nil _ | refine Sub.cons (by first | rfl | (rw [dgs_zero]; rfl) | (rw [List.drop_length]; rfl) | (simp; done) | (congr 2; omega) | (congr 3; omega)) ?_ | exact Sub.refl _ | refine sub_snap ?_ rfl)) (by repeat (first | exact Sub.nil _ | refine Sub.cons (by first | rfl | (rw [dgs_zero]; rfl) | (rw [List.drop_length]; rfl) | (simp; done) | (congr 2; omega) | (congr 3; omega)) ?_ | exact Sub.refl _ | refine sub_snap ?_ rfl))
    · obtain rfl : j = 1 := by omega
      refine J.no rfl rfl rfl rfl ?_
      refine J.no rfl rfl rfl rfl ?_
      refine J.no rfl rfl rfl rfl ?_
      refine J.no rfl rfl rfl rfl ?_
      refine J.no rfl rfl rfl rfl ?_
      refine J.no rfl rfl rfl rfl ?_
      refine J.no rfl rfl rfl rfl ?_
      refine J.no rfl rfl rfl rfl ?_
      refine J.pick_f rfl rfl rfl ?_
      refine J.end ?_
      refine X.then ?_
      refine T.cond_false rfl ?_
      refine T.exit ?_
      refine X.then_exit (X.then_exit (X.inBlock_eq (X.then ?_)))
      refine T.seq ?_
      refine T.draw [] [(0, .q), (1, .g), (2, .g), (3, .g), (4, .l), (5, .g), (6, .g), (7, .g), (8, .l), (9, .g)] (by kernel_rfl) (by kernel_rfl) ?_ (by repeat (first | exact Sub.nil _ | refine Sub.cons (by first | rfl | (rw [dgs_zero]; rfl) | (rw [List.drop_length]; rfl) | (simp; done) | (congr 2; omega) | (congr 3; omega)) ?_ | exact Sub.refl _ | refine sub_snap ?_ rfl))
      refine J.loadN (k := .q) trivial 9 rfl rfl agg56 (a.cells) rfl rfl rfl ?_
      refine J.move rfl rfl ?_
      refine J.move rfl rfl ?_
      refine J.sliceSl sl25 rfl optInt.none (optInt.some rfl (by omega) (by first | exact Int.toNat_natCast _ | rfl)) optInt.none (by simp) (by omega) (by omega) (by omega) rfl rfl ?_
      refine J.as 84 (.slice (some ⟨gD, 0, none⟩) 1 cD) rfl (by first | (rw [slice0]; done) | (rw [slice0]; rfl)) ?_
      refine J.callB fok51 rfl rfl _ _ [(5, ⟨some g5, 26, [.int .i64 0]⟩), (4, ⟨some g4, 22, [RowIx.nil.val [].length]⟩), (60, RowIx.nil.ent 56 (rowA [])), (9, ⟨some g9, 56, (a.cells)⟩)] (by repeat (first | exact Sub.nil _ | refine Sub.cons (by first | rfl | (rw [dgs_zero]; rfl) | (rw [List.drop_length]; rfl) | (simp; done) | (congr 2; omega) | (congr 3; omega)) ?_ | exact Sub.refl _ | refine sub_snap ?_ rfl)) rfl (fun _ _ => Sub.nil _) (fun w hw => Dn.turned w a c _ cD hnn hc0 hs0 (hD.ws hw (off_nil _)) hcD hkd ho hno hbal) (fun i85 W85 hP85 hW85 => ?_)
      have hVW85 := hW85.sub (Sub.nil _)
      refine J.move rfl rfl ?_
      refine J.extract rfl rfl rfl ?_
      refine J.extract rfl rfl rfl ?_
      refine J.store 9 rfl rfl rfl rfl ((a.moved c.new i85).cells) rfl sz56 (Nat.le_of_ble_eq_true rfl) (by first | exact Ac.cells_one _ | exact Ch.cells_one _) (Nat.zero_lt_succ _) trivial ((a.moved c.new i85).cells) rfl ?_
      refine J.assign rfl rfl ?_
      refine J.end ?_
      refine X.then ?_
      refine T.seq ?_
      refine T.seq ?_
      refine T.text [.l, .l] rfl ?_
      refine J.move rfl rfl ?_
      refine J.not rfl rfl rfl ?_
      refine J.end ?_
      refine X.then ?_
      refine T.cond_false rfl ?_
      refine T.skip ?_
      refine X.then ?_
      refine T.seq ?_
      refine T.text [.l, .l, .l, .l] rfl ?_
      refine J.move rfl rfl ?_
      refine J.move rfl rfl ?_
      refine J.sliceSl sl25 rfl (optInt.some rfl (by omega) (by first | exact Int.toNat_natCast _ | rfl)) optInt.none optInt.none (by simp) (by omega) (by omega) (by omega) rfl rfl ?_
      refine J.assign rfl rfl ?_
      refine J.end ?_
      refine X.then ?_
      refine T.seq ?_
      refine T.text [.l, .l, .l] rfl ?_
      refine J.loadN (k := .l) trivial 9 rfl rfl agg56 ((a.moved c.new i85).cells) rfl rfl rfl ?_
      refine J.call0 (k := .l) trivial fok52 rfl rfl (fun w hw => Di.empty w (a.moved c.new i85)) ?_
      refine J.as 94 (.bool false) rfl (by rw [decide_eq_false (moved_void hnz)]) ?_
      refine J.not rfl rfl rfl ?_
      refine J.end ?_
      refine X.then ?_
      refine T.cond_true rfl ?_
      refine T.text [.l, .l, .l, .l, .l] rfl ?_
      refine J.load1 (k := .l) trivial 4 rfl rfl one22 rfl rfl ?_
      refine J.loadN (k := .l) trivial 9 rfl rfl agg56 ((a.moved c.new i85).cells) rfl rfl rfl ?_
      refine J.lit1 98 rfl Tryz.underlying22 el56 (by decide) rfl ((a.moved c.new i85).cells) rfl rfl rfl (fun g98 hg98 => ?_)
      refine J.append (i := RowIx.nil) (cs := []) 60 rfl Tryz.underlying22 el56 rfl (RowIx.nil_ok 27) rfl rfl rfl rfl (fun w hw => (hw.blkCs (k := 98) rfl)) (Ac.cells_one _) (by omega) (by unfold maxLen; omega) rfl 1 rfl (rowA ([] ++ [(a.moved c.new i85)])) (rowA_snoc [] _).symm (fun r99 hr99 => ?_)
      refine J.store 4 rfl rfl rfl rfl [r99.val 1] rfl sz22 (by first | decide | exact Nat.le_refl _ | exact Nat.le_of_ble_eq_true rfl | (simp [rowN]; done) | (simp [rowN]; omega)) (by intro u hu; rw [List.mem_singleton.1 hu]; rfl) (by first | decide | exact Nat.zero_lt_succ _ | simp) trivial [r99.val 1] rfl ?_
      refine J.end ?_
      refine X.inBlock ?_
      exact X.round ⟨0, (if cA = 1 then some ⟨gA, 0, none⟩ else (some ⟨gA, 0, none⟩ : Option Addr).map (·.add (1 * 27))), (cA - 1), (if cD = 1 then some ⟨gD, 0, none⟩ else (some ⟨gD, 0, none⟩ : Option Addr).map (·.add (1 * 35))), (cD - 1), r99, [(a.moved c.new i85)]⟩ ⟨Nat.zero_le _, fun q => (by cases q), fun _ => ⟨hr99, i85, rfl⟩⟩ (by show 0 < 1; omega) (by repeat (first | exact Sub.nil _ | refine Sub.cons (by first | rfl | (rw [dgs_zero]; rfl) | (rw [List.drop_length]; rfl) | (simp; done) | (congr 2; omega) | (congr 3; omega)) ?_ | exact Sub.refl _ | refine sub_snap ?_ rfl)) (by repeat (first | exact Sub.nil _ | refine Sub.cons (by first | rfl | (rw [dgs_zero]; rfl) | (rw [List.drop_length]; rfl) | (simp; done) | (congr 2; omega) | (congr 3; omega)) ?_ | exact Sub.refl _ | refine sub_snap ?_ rfl))
  · obtain rfl : k = 0 := by omega
    obtain ⟨hr, q, rfl⟩ := hk0 rfl
    refine J.yes rfl rfl ?_
    refine J.move rfl rfl ?_
    refine J.yes rfl rfl ?_
    refine J.lenSl Tryz.underlying25 rfl rfl ?_
    refine J.yes rfl rfl ?_
    refine J.gtr rfl rfl rfl (decide_eq_false (by first | omega | rfl | assumption | (simp only [*]; done))) ?_
    refine J.pick_f rfl rfl rfl ?_
    refine J.end ?_
    refine X.then ?_
    refine T.cond_false rfl ?_
    refine T.exit ?_
    refine X.then_exit (X.then_exit (X.inBlock_eq (X.then ?_)))
    refine T.seq ?_
    refine T.text [.l, .l, .l] rfl ?_
    refine J.load1 (k := .l) trivial 4 rfl rfl one22 rfl rfl ?_
    refine J.store 4 rfl rfl rfl rfl [r.val 1] rfl sz22 (by first | decide | exact Nat.le_refl _ | exact Nat.le_of_ble_eq_true rfl | (simp [rowN]; done) | (simp [rowN]; omega)) (by intro u hu; rw [List.mem_singleton.1 hu]; rfl) (by first | decide | exact Nat.zero_lt_succ _ | simp) trivial [r.val 1] rfl ?_
    refine J.store 5 rfl rfl rfl rfl [.int .i64 0] rfl sz26 (by first | decide | exact Nat.le_refl _ | exact Nat.le_of_ble_eq_true rfl | (simp [rowN]; done) | (simp [rowN]; omega)) (by intro u hu; rw [List.mem_singleton.1 hu]; rfl) (by first | decide | exact Nat.zero_lt_succ _ | simp) trivial [.int .i64 0] rfl ?_
    refine J.end ?_
    refine X.then ?_
    refine T.ret ?_
    refine X.retD2 (M' := [g5, g4]) (l2 := [(5, ⟨some g5, 26, [.int .i64 0]⟩), (4, ⟨some g4, 22, [r.val 1]⟩)]) rfl rfl fok50 (fun w hw => (Dp.Apply1 w g5 g4 (hdOf r.id) r.cap (a.moved c.new q) rfl (moved_look hnz) (hw.rowCs (k := 60) rfl) (off_two hw (a := 5) (b := 4) (j := 60) rfl rfl rfl (by decide) (by decide)) (hw.live 5 _ rfl) (hw.live 4 _ rfl) (fun h => hw.apart 5 4 _ _ g5 rfl rfl (by decide) rfl (by rw [h]))).mono (fun e u w' h => h)) (hM54 rfl rfl rfl rfl) (RV.one 4 rfl rfl one22 rfl) (RV.one 5 rfl rfl one26 rfl) (fun w' hw' => ?_)
    exact ⟨(q, r), ⟨hr, fit_row hw' (j := 60) rfl (fun g h => ⟨hB g h, fun q => by cases q⟩)⟩, rfl, hw'.sub (Sub.nil _)⟩
end Go.Proofs.YtlllcafedekojaaGreatDoor.Dp
set_option linter.unusedVariables false
set_option maxRecDepth 20000
namespace Go.Proofs.YtlllcafedekojaaGreatDoor.Dq
open Go Go.Fw

theorem sz287 : SizeT Tryz.prog 287 32 := (by unfold SizeT; kernel_rfl)
theorem sz56 : SizeT Tryz.prog 56 27 := (by unfold SizeT; kernel_rfl)
theorem sl22 : SlT Tryz.prog 22 56 27 := ⟨Tryz.underlying22, sz56⟩
theorem sz47 : SizeT Tryz.prog 47 20 := (by unfold SizeT; kernel_rfl)
theorem fld56_0 : FldT Tryz.prog 56 0 47 0 19 := ⟨by kernel_rfl, sz47⟩
theorem agg47 : AggT Tryz.prog 47 20 := ⟨⟨_, Tryz.underlying47, rfl⟩, by kernel_rfl⟩
theorem sz5 : SizeT Tryz.prog 5 1 := (by unfold SizeT; kernel_rfl)
theorem arr47 : ArrT Tryz.prog 47 20 5 1 := ⟨Tryz.underlying47, sz5⟩
theorem one5 : OneT Tryz.prog 5 := ⟨⟨_, Tryz.underlying5, rfl⟩, by kernel_rfl⟩
theorem eqA47 : EqA Tryz.prog 47 20 := ⟨⟨5, arr47, one5, Tryz.underlying5⟩, by kernel_rfl⟩
theorem sz48 : SizeT Tryz.prog 48 1 := (by unfold SizeT; kernel_rfl)
theorem fld56_1 : FldT Tryz.prog 56 1 48 20 0 := ⟨by kernel_rfl, sz48⟩
theorem one48 : OneT Tryz.prog 48 := ⟨⟨_, Tryz.underlying48, rfl⟩, by kernel_rfl⟩
theorem sz50 : SizeT Tryz.prog 50 4 := (by unfold SizeT; kernel_rfl)
theorem fld56_2 : FldT Tryz.prog 56 2 50 21 3 := ⟨by kernel_rfl, sz50⟩
theorem agg50 : AggT Tryz.prog 50 4 := ⟨⟨_, Tryz.underlying50, rfl⟩, by kernel_rfl⟩
theorem arr50 : ArrT Tryz.prog 50 4 48 1 := ⟨Tryz.underlying50, sz48⟩
theorem eqw50 : EqT Tryz.prog 50 := ⟨⟨48, arr50, one48, Tryz.underlying48⟩, by kernel_rfl⟩
theorem sz51 : SizeT Tryz.prog 51 1 := (by unfold SizeT; kernel_rfl)
theorem fld56_3 : FldT Tryz.prog 56 3 51 25 0 := ⟨by kernel_rfl, sz51⟩
theorem one51 : OneT Tryz.prog 51 := ⟨⟨_, Tryz.underlying51, rfl⟩, by kernel_rfl⟩
theorem sz54 : SizeT Tryz.prog 54 1 := (by unfold SizeT; kernel_rfl)
theorem fld56_4 : FldT Tryz.prog 56 4 54 26 0 := ⟨by kernel_rfl, sz54⟩
theorem one54 : OneT Tryz.prog 54 := ⟨⟨_, Tryz.underlying54, rfl⟩, by kernel_rfl⟩

theorem worlds (w : World) (A1 A2 : Option Addr) (c1 c2 : Nat) (a b : Ac) (hA : Cs w A1 (rowA [a])) (hD : Cs w A2 (rowA [b])) (hwho : adL a.who = adL b.who) (hno : a.nonce = b.nonce) (hbal : a.bal % 2 ^ 256 = b.bal % 2 ^ 256) (hca : a.code = []) (hcb : b.code = []) (hsa : a.sl.length = 0) (hsb : b.sl.length = 0) :
    Calls Tryz.prog 26 [.slice A1 1 c1, .slice A2 1 c2].toArray w fun e w' => e = .returned (.bool true) ∧ WS w [] [] w' := by
  refine calls_of_T [] 112 [] Tryz.func26 rfl Tryz.ntmps26 (by simp) (WS.refl _ _) ?_
  refine T.seq ?_
  refine T.text [.l] rfl ?_
  refine J.assign rfl rfl ?_
  refine J.end ?_
  refine X.then ?_
  refine T.seq ?_
  refine T.seq ?_
  refine T.text [.l, .l, .l, .l, .l] rfl ?_
  refine J.move rfl rfl ?_
  refine J.lenSl Tryz.underlying22 rfl rfl ?_
  refine J.move rfl rfl ?_
  refine J.lenSl Tryz.underlying22 rfl rfl ?_
  refine J.neq rfl rfl rfl (decide_eq_false (by first | omega | rfl | assumption | (simp only [*]; done))) ?_
  refine J.end ?_
  refine X.then ?_
  refine T.cond_false rfl ?_
  refine T.skip ?_
  refine X.then ?_
  refine T.seq ?_
  refine T.seq ?_
  refine T.text [.l] rfl ?_
  refine J.assign rfl rfl ?_
  refine J.end ?_
  refine X.then ?_
  refine T.block ?_
  refine T.loop (ι := Nat) (fun (i : Nat) => i ≤ 1) (fun (i : Nat) => [(0, .slice A1 1 c1), (1, .slice A2 1 c2), (5, .int .i64 ((i : Nat) : Int))]) (fun (i : Nat) => []) (fun (i : Nat) => 1 - i) 0 (Nat.zero_le _) (by repeat (first | exact Sub.nil _ | refine Sub.cons (by first | rfl | (rw [dgs_zero]; rfl) | (rw [List.drop_length]; rfl) | (simp; done) | (congr 2; omega) | (congr 3; omega)) ?_)) (by repeat (first | exact Sub.nil _ | refine Sub.cons (by first | rfl | (rw [dgs_zero]; rfl) | (rw [List.drop_length]; rfl) | (simp; done) | (congr 2; omega) | (congr 3; omega)) ?_)) ?_
  rintro i hi
  refine T.seq ?_
  refine T.seq ?_
  refine T.text [.l, .l, .l, .l] rfl ?_
  refine J.move rfl rfl ?_
  refine J.move rfl rfl ?_
  refine J.lenSl Tryz.underlying22 rfl rfl ?_
  refine J.lss rfl rfl rfl rfl ?_
  refine J.end ?_
  refine X.then ?_
  refine T.cond_dec rfl (fun h1 => ?_) (fun h1 => ?_)
  · obtain rfl : i = 0 := by omega
    refine T.skip ?_
    refine X.then ?_
    refine T.seq ?_
    refine T.block ?_
    refine T.seq ?_
    refine T.seq ?_
    refine T.draw [] [(0, .g), (1, .g), (2, .g), (3, .g), (4, .q), (5, .g), (6, .g), (7, .g), (8, .g), (9, .q), (10, .g), (11, .g), (12, .g), (13, .g), (14, .g), (15, .g), (16, .q), (17, .g), (18, .g), (19, .g), (20, .g), (21, .q), (22, .g), (23, .g), (24, .g), (25, .g), (26, .g), (27, .g), (28, .g), (29, .q), (30, .g), (31, .g), (32, .g), (33, .g), (34, .q), (35, .g), (36, .g), (37, .g), (38, .g), (39, .g), (40, .g), (41, .g), (42, .q), (43, .q), (44, .g), (45, .g), (46, .g), (47, .g), (48, .q), (49, .q), (50, .g), (51, .g), (52, .g), (53, .g), (54, .g), (55, .g), (56, .g), (57, .q), (58, .g), (59, .g), (60, .g), (61, .g), (62, .g), (63, .q), (64, .g), (65, .g), (66, .g)] (by kernel_rfl) (by kernel_rfl) ?_ (by repeat (first | exact Sub.nil _ | refine Sub.cons (by first | rfl | (rw [dgs_zero]; rfl) | (rw [List.drop_length]; rfl) | (simp; done) | (congr 2; omega) | (congr 3; omega)) ?_))
    refine J.move rfl rfl ?_
    refine J.move rfl rfl ?_
    refine J.indexSlI sl22 rfl (hA.isSome (by rw [rowA_length]; simp)) rfl (by omega) (by omega) (by first | exact Int.toNat_natCast _ | rfl) rfl ?_
    refine J.fieldAddrI fld56_0 rfl rfl ?_
    refine J.loadIN (k := .q) trivial hA (off_nil _) rfl agg47 (ac a.who) rfl (by rfl) rfl ?_
    refine J.move rfl rfl ?_
    refine J.move rfl rfl ?_
    refine J.indexSlI sl22 rfl (hD.isSome (by rw [rowA_length]; simp)) rfl (by omega) (by omega) (by first | exact Int.toNat_natCast _ | rfl) rfl ?_
    refine J.fieldAddrI fld56_0 rfl rfl ?_
    refine J.loadIN (k := .q) trivial hD (off_nil _) rfl agg47 (ac b.who) rfl (by rfl) rfl ?_
    refine J.neqA eqA47 rfl rfl (by rfl) (by rfl) rfl ?_
    refine J.as 28 (.bool false) rfl (by rw [decide_eq_false (fun q => q (hwho))]) ?_
    refine J.move rfl rfl ?_
    refine J.yes rfl rfl ?_
    refine J.move rfl rfl ?_
    refine J.yes rfl rfl ?_
    refine J.move rfl rfl ?_
    refine J.yes rfl rfl ?_
    refine J.indexSlI sl22 rfl (hA.isSome (by rw [rowA_length]; simp)) rfl (by omega) (by omega) (by first | exact Int.toNat_natCast _ | rfl) rfl ?_
    refine J.yes rfl rfl ?_
    refine J.fieldAddrI fld56_1 rfl rfl ?_
    refine J.yes rfl rfl ?_
    refine J.loadI1 (k := .q) trivial hA (off_nil _) rfl one48 (by rfl) rfl ?_
    refine J.yes rfl rfl ?_
    refine J.move rfl rfl ?_
    refine J.yes rfl rfl ?_
    refine J.move rfl rfl ?_
    refine J.yes rfl rfl ?_
    refine J.indexSlI sl22 rfl (hD.isSome (by rw [rowA_length]; simp)) rfl (by omega) (by omega) (by first | exact Int.toNat_natCast _ | rfl) rfl ?_
    refine J.yes rfl rfl ?_
    refine J.fieldAddrI fld56_1 rfl rfl ?_
    refine J.yes rfl rfl ?_
    refine J.loadI1 (k := .q) trivial hD (off_nil _) rfl one48 (by rfl) rfl ?_
    refine J.yes rfl rfl ?_
    refine J.neq rfl rfl rfl (decide_eq_false (by first | omega | rfl | assumption | (simp only [*]; done))) ?_
    refine J.pick_f rfl rfl rfl ?_
    refine J.move rfl rfl ?_
    refine J.yes rfl rfl ?_
    refine J.move rfl rfl ?_
    refine J.yes rfl rfl ?_
    refine J.move rfl rfl ?_
    refine J.yes rfl rfl ?_
    refine J.indexSlI sl22 rfl (hA.isSome (by rw [rowA_length]; simp)) rfl (by omega) (by omega) (by first | exact Int.toNat_natCast _ | rfl) rfl ?_
    refine J.yes rfl rfl ?_
    refine J.fieldAddrI fld56_2 rfl rfl ?_
    refine J.yes rfl rfl ?_
    refine J.loadIN (k := .q) trivial hA (off_nil _) rfl agg50 (wc a.bal) rfl (by rfl) rfl ?_
    refine J.yes rfl rfl ?_
    refine J.move rfl rfl ?_
    refine J.yes rfl rfl ?_
    refine J.move rfl rfl ?_
    refine J.yes rfl rfl ?_
    refine J.indexSlI sl22 rfl (hD.isSome (by rw [rowA_length]; simp)) rfl (by omega) (by omega) (by first | exact Int.toNat_natCast _ | rfl) rfl ?_
    refine J.yes rfl rfl ?_
    refine J.fieldAddrI fld56_2 rfl rfl ?_
    refine J.yes rfl rfl ?_
    refine J.loadIN (k := .q) trivial hD (off_nil _) rfl agg50 (wc b.bal) rfl (by rfl) rfl ?_
    refine J.yes rfl rfl ?_
    refine J.neqW eqw50 rfl rfl rfl ?_
    refine J.as 53 (.bool false) rfl (by rw [decide_eq_false (fun q => q (hbal))]) ?_
    refine J.pick_f rfl rfl rfl ?_
    refine J.move rfl rfl ?_
    refine J.yes rfl rfl ?_
    refine J.move rfl rfl ?_
    refine J.yes rfl rfl ?_
    refine J.move rfl rfl ?_
    refine J.yes rfl rfl ?_
    refine J.indexSlI sl22 rfl (hA.isSome (by rw [rowA_length]; simp)) rfl (by omega) (by omega) (by first | exact Int.toNat_natCast _ | rfl) rfl ?_
    refine J.yes rfl rfl ?_
    refine J.fieldAddrI fld56_3 rfl rfl ?_
    refine J.yes rfl rfl ?_
    refine J.loadI1 (k := .q) trivial hA (off_nil _) rfl one51 (by rfl) rfl ?_
    refine J.yes rfl rfl ?_
    refine J.convBS (k := .q) trivial Tryz.underlying51 Tryz.underlying5 Tryz.underlying9 rfl (a.code) rfl (fun w hw => (show Cs w _ (rowN .u8 a.code) by rw [hca]; exact Cs.nil _ _)) rfl ?_
    refine J.yes rfl rfl ?_
    refine J.move rfl rfl ?_
    refine J.yes rfl rfl ?_
    refine J.move rfl rfl ?_
    refine J.yes rfl rfl ?_
    refine J.indexSlI sl22 rfl (hD.isSome (by rw [rowA_length]; simp)) rfl (by omega) (by omega) (by first | exact Int.toNat_natCast _ | rfl) rfl ?_
    refine J.yes rfl rfl ?_
    refine J.fieldAddrI fld56_3 rfl rfl ?_
    refine J.yes rfl rfl ?_
    refine J.loadI1 (k := .q) trivial hD (off_nil _) rfl one51 (by rfl) rfl ?_
    refine J.yes rfl rfl ?_
    refine J.convBS (k := .q) trivial Tryz.underlying51 Tryz.underlying5 Tryz.underlying9 rfl (b.code) rfl (fun w hw => (show Cs w _ (rowN .u8 b.code) by rw [hcb]; exact Cs.nil _ _)) rfl ?_
    refine J.yes rfl rfl ?_
    refine J.neqStr (xs := a.code) (ys := b.code) rfl rfl rfl (by rw [hca]; exact dg_nil) (by rw [hcb]; exact dg_nil) ?_
    refine J.as 68 (.bool false) rfl (by rw [decide_eq_false (fun q => q (hca.trans hcb.symm))]) ?_
    refine J.pick_f rfl rfl rfl ?_
    refine J.move rfl rfl ?_
    refine J.yes rfl rfl ?_
    refine J.move rfl rfl ?_
    refine J.yes rfl rfl ?_
    refine J.move rfl rfl ?_
    refine J.yes rfl rfl ?_
    refine J.indexSlI sl22 rfl (hA.isSome (by rw [rowA_length]; simp)) rfl (by omega) (by omega) (by first | exact Int.toNat_natCast _ | rfl) rfl ?_
    refine J.yes rfl rfl ?_
    refine J.fieldAddrI fld56_4 rfl rfl ?_
    refine J.yes rfl rfl ?_
    refine J.loadI1 (k := .q) trivial hA (off_nil _) rfl one54 (by rfl) rfl ?_
    refine J.yes rfl rfl ?_
    refine J.lenSl Tryz.underlying54 rfl rfl ?_
    refine J.yes rfl rfl ?_
    refine J.move rfl rfl ?_
    refine J.yes rfl rfl ?_
    refine J.move rfl rfl ?_
    refine J.yes rfl rfl ?_
    refine J.indexSlI sl22 rfl (hD.isSome (by rw [rowA_length]; simp)) rfl (by omega) (by omega) (by first | exact Int.toNat_natCast _ | rfl) rfl ?_
    refine J.yes rfl rfl ?_
    refine J.fieldAddrI fld56_4 rfl rfl ?_
    refine J.yes rfl rfl ?_
    refine J.loadI1 (k := .q) trivial hD (off_nil _) rfl one54 (by rfl) rfl ?_
    refine J.yes rfl rfl ?_
    refine J.lenSl Tryz.underlying54 rfl rfl ?_
    refine J.yes rfl rfl ?_
    refine J.neq rfl rfl rfl (decide_eq_false (by first | omega | rfl | assumption | (simp only [*]; done))) ?_
    refine J.pick_f rfl rfl rfl ?_
    refine J.end ?_
    refine X.then ?_
    refine T.cond_false rfl ?_
    refine T.skip ?_
    refine X.then ?_
    refine T.seq ?_
    refine T.text [.l] rfl ?_
    refine J.assign rfl rfl ?_
    refine J.end ?_
    refine X.then ?_
    refine T.block ?_
    refine T.loop (ι := Nat) (fun (j : Nat) => j = 0) (fun (j : Nat) => [(0, .slice A1 1 c1), (1, .slice A2 1 c2), (5, .int .i64 ((0 : Nat) : Int)), (6, .int .i64 ((j : Nat) : Int))]) (fun (j : Nat) => []) (fun (j : Nat) => 0) 0 rfl (by repeat (first | exact Sub.nil _ | refine Sub.cons (by first | rfl | (rw [dgs_zero]; rfl) | (rw [List.drop_length]; rfl) | (simp; done) | (congr 2; omega) | (congr 3; omega)) ?_)) (by repeat (first | exact Sub.nil _ | refine Sub.cons (by first | rfl | (rw [dgs_zero]; rfl) | (rw [List.drop_length]; rfl) | (simp; done) | (congr 2; omega) | (congr 3; omega)) ?_)) ?_
    rintro j hj0
    refine T.seq ?_
    refine T.seq ?_
    refine T.text [.l, .l, .l, .l, .l, .l, .l, .l] rfl ?_
    refine J.move rfl rfl ?_
    refine J.move rfl rfl ?_
    refine J.move rfl rfl ?_
    refine J.indexSlI sl22 rfl (hA.isSome (by rw [rowA_length]; simp)) rfl (by omega) (by omega) (by first | exact Int.toNat_natCast _ | rfl) rfl ?_
    refine J.fieldAddrI fld56_4 rfl rfl ?_
    refine J.loadI1 (k := .l) trivial hA (off_nil _) rfl one54 (by rfl) rfl ?_
    refine J.lenSl Tryz.underlying54 rfl rfl ?_
    refine J.lss rfl rfl rfl rfl ?_
    refine J.end ?_
    refine X.then ?_
    refine T.cond_dec rfl (fun h2 => ?_) (fun h2 => ?_)
    · exact absurd h2 (by omega)
    · skip
      refine T.exit ?_
      refine X.then_exit (X.then_exit (X.inBlock_eq (X.inBlock (X.then ?_))))
      refine T.text [.l, .l, .l] rfl ?_
      refine J.move rfl rfl ?_
      refine J.add rfl rfl rfl (by first | exact add_nat _ 1 (by omega) | exact i64_ok _ (by omega) | exact rfl) ?_
      refine J.assign rfl rfl ?_
      refine J.end ?_
      exact X.round (0 + 1) (Nat.le_refl _) (by first | omega | (dsimp only; omega)) (by repeat (first | exact Sub.nil _ | refine Sub.cons (by first | rfl | (rw [dgs_zero]; rfl) | (rw [List.drop_length]; rfl) | (simp; done) | (congr 2; omega) | (congr 3; omega)) ?_)) (by repeat (first | exact Sub.nil _ | refine Sub.cons (by first | rfl | (rw [dgs_zero]; rfl) | (rw [List.drop_length]; rfl) | (simp; done) | (congr 2; omega) | (congr 3; omega)) ?_))
  · skip
    refine T.exit ?_
    refine X.then_exit (X.then_exit (X.inBlock_eq (X.then ?_)))
    refine T.seq ?_
    refine T.text [.l] rfl ?_
    refine J.assign rfl rfl ?_
    refine J.end ?_
    refine X.then ?_
    refine T.ret ?_
    exact X.ret1 rfl (RV.tmp rfl) (fun w' hw' => ⟨rfl, hw'.sub (Sub.nil _)⟩)
end Go.Proofs.YtlllcafedekojaaGreatDoor.Dq
set_option linter.unusedVariables false
set_option maxRecDepth 20000
namespace Go.Proofs.YtlllcafedekojaaGreatDoor.Dr
open Go Go.Fw

theorem sz287 : SizeT Tryz.prog 287 32 := (by unfold SizeT; kernel_rfl)
theorem zero56 : ZeroT Tryz.prog 56 (.agg ([.int .u8 0, .int .u8 0, .int .u8 0, .int .u8 0, .int .u8 0, .int .u8 0, .int .u8 0, .int .u8 0, .int .u8 0, .int .u8 0, .int .u8 0, .int .u8 0, .int .u8 0, .int .u8 0, .int .u8 0, .int .u8 0, .int .u8 0, .int .u8 0, .int .u8 0, .int .u8 0, .int .u64 0, .int .u64 0, .int .u64 0, .int .u64 0, .int .u64 0, .slice none 0 0, .slice none 0 0]).toArray) := (by unfold ZeroT; kernel_rfl)
theorem sz56 : SizeT Tryz.prog 56 27 := (by unfold SizeT; kernel_rfl)
theorem agg56 : AggT Tryz.prog 56 27 := ⟨⟨_, Tryz.underlying56, rfl⟩, by kernel_rfl⟩
theorem el56 : ElT Tryz.prog 56 27 112 (.agg ([.int .u8 0, .int .u8 0, .int .u8 0, .int .u8 0, .int .u8 0, .int .u8 0, .int .u8 0, .int .u8 0, .int .u8 0, .int .u8 0, .int .u8 0, .int .u8 0, .int .u8 0, .int .u8 0, .int .u8 0, .int .u8 0, .int .u8 0, .int .u8 0, .int .u8 0, .int .u8 0, .int .u64 0, .int .u64 0, .int .u64 0, .int .u64 0, .int .u64 0, .slice none 0 0, .slice none 0 0]).toArray) := ⟨by kernel_rfl, rfl, by decide, by decide⟩
theorem fok17 : FnOk Tryz.prog 17 := FnOk.mk' Tryz.func17 (by kernel_rfl) rfl
theorem fok24 : FnOk Tryz.prog 24 := FnOk.mk' Tryz.func24 (by kernel_rfl) rfl
theorem fok28 : FnOk Tryz.prog 28 := FnOk.mk' Tryz.func28 (by kernel_rfl) rfl
theorem fok32 : FnOk Tryz.prog 32 := FnOk.mk' Tryz.func32 (by kernel_rfl) rfl
theorem fok29 : FnOk Tryz.prog 29 := FnOk.mk' Tryz.func29 (by kernel_rfl) rfl
theorem fok26 : FnOk Tryz.prog 26 := FnOk.mk' Tryz.func26 (by kernel_rfl) rfl
theorem el53 : ElT Tryz.prog 53 35 176 (.agg ([.int .u8 0, .int .u8 0, .int .u8 0, .int .u8 0, .int .u8 0, .int .u8 0, .int .u8 0, .int .u8 0, .int .u8 0, .int .u8 0, .int .u8 0, .int .u8 0, .int .u8 0, .int .u8 0, .int .u8 0, .int .u8 0, .int .u8 0, .int .u8 0, .int .u8 0, .int .u8 0, .int .i64 0, .int .u64 0, .int .u64 0, .int .u64 0, .int .u64 0, .int .u64 0, .int .u64 0, .int .u64 0, .int .u64 0, .int .u64 0, .int .u64 0, .int .u64 0, .int .u64 0, .slice none 0 0, .slice none 0 0]).toArray) := ⟨by kernel_rfl, rfl, by decide, by decide⟩
theorem fok20 : FnOk Tryz.prog 20 := FnOk.mk' Tryz.func20 (by kernel_rfl) rfl

set_option maxHeartbeats 4000000 in
theorem awake (w : World) :
    Calls Tryz.prog 19 [].toArray w fun e w' => e = .returned (.bool true) ∧ WS w [] [] w' := by
  obtain ⟨n, hn0⟩ : ∃ n, n = w.heap.size := ⟨_, rfl⟩
  have hn : n ≤ w.heap.size := Nat.le_of_eq hn0
  refine calls_of_T [] 96 [] Tryz.func19 rfl Tryz.ntmps19 (by simp) (WS.refl _ _) ?_
  refine T.seq ?_
  refine T.text [.l] rfl ?_
  refine J.assign rfl rfl ?_
  refine J.end ?_
  refine X.then ?_
  refine T.seq ?_
  refine T.text [.l, .l, .l, .l] rfl ?_
  refine J.build rfl rfl (W 5) (fun w => by kernel_rfl) ?_
  refine J.build rfl rfl (.agg (Ac.ofBal 5).cells.toArray) (fun w => by kernel_rfl) ?_
  refine J.alloc 1 rfl zero56 [.int .u8 0, .int .u8 0, .int .u8 0, .int .u8 0, .int .u8 0, .int .u8 0, .int .u8 0, .int .u8 0, .int .u8 0, .int .u8 0, .int .u8 0, .int .u8 0, .int .u8 0, .int .u8 0, .int .u8 0, .int .u8 0, .int .u8 0, .int .u8 0, .int .u8 0, .int .u8 0, .int .u64 0, .int .u64 0, .int .u64 0, .int .u64 0, .int .u64 0, .slice none 0 0, .slice none 0 0] rfl rfl (fun g1 hg1 => ?_)
  refine J.store 1 rfl rfl rfl rfl ((Ac.ofBal 5).cells) rfl sz56 (Nat.le_of_ble_eq_true rfl) (by first | exact Ac.cells_one _ | exact Ch.cells_one _) (Nat.zero_lt_succ _) trivial ((Ac.ofBal 5).cells) rfl ?_
  refine J.end ?_
  refine X.then ?_
  refine T.seq ?_
  refine T.text [.l, .l, .l, .l] rfl ?_
  refine J.build rfl rfl (W 2) (fun w => by kernel_rfl) ?_
  refine J.build rfl rfl (.agg (Ac.ofBal 2).cells.toArray) (fun w => by kernel_rfl) ?_
  refine J.alloc 2 rfl zero56 [.int .u8 0, .int .u8 0, .int .u8 0, .int .u8 0, .int .u8 0, .int .u8 0, .int .u8 0, .int .u8 0, .int .u8 0, .int .u8 0, .int .u8 0, .int .u8 0, .int .u8 0, .int .u8 0, .int .u8 0, .int .u8 0, .int .u8 0, .int .u8 0, .int .u8 0, .int .u8 0, .int .u64 0, .int .u64 0, .int .u64 0, .int .u64 0, .int .u64 0, .slice none 0 0, .slice none 0 0] rfl rfl (fun g2 hg2 => ?_)
  refine J.store 2 rfl rfl rfl rfl ((Ac.ofBal 2).cells) rfl sz56 (Nat.le_of_ble_eq_true rfl) (by first | exact Ac.cells_one _ | exact Ch.cells_one _) (Nat.zero_lt_succ _) trivial ((Ac.ofBal 2).cells) rfl ?_
  refine J.end ?_
  refine X.then ?_
  refine T.seq ?_
  refine T.text [.l, .l, .l, .l, .l, .l, .l, .l, .l, .l] rfl ?_
  refine J.loadN (k := .l) trivial 1 rfl rfl agg56 ((Ac.ofBal 5).cells) rfl rfl rfl ?_
  refine J.lit1 20 rfl Tryz.underlying22 el56 (by decide) rfl ((Ac.ofBal 5).cells) rfl rfl rfl (fun g20 hg20 => ?_)
  refine J.loadN (k := .l) trivial 2 rfl rfl agg56 ((Ac.ofBal 2).cells) rfl rfl rfl ?_
  refine J.lit1 22 rfl Tryz.underlying22 el56 (by decide) rfl ((Ac.ofBal 2).cells) rfl rfl rfl (fun g22 hg22 => ?_)
  refine J.callB fok17 rfl rfl _ _ [(1, ⟨some g1, 56, ((Ac.ofBal 5).cells)⟩), (2, ⟨some g2, 56, ((Ac.ofBal 2).cells)⟩), (20, ⟨some g20, 56, ((Ac.ofBal 5).cells)⟩), (22, ⟨some g22, 56, ((Ac.ofBal 2).cells)⟩)] (by repeat (first | exact Sub.nil _ | refine Sub.cons (by first | rfl | (rw [dgs_zero]; rfl) | (rw [List.drop_length]; rfl) | (simp; done) | (congr 2; omega) | (congr 3; omega)) ?_ | exact Sub.refl _ | refine sub_snap ?_ rfl)) rfl (fun _ _ => Sub.nil _) (fun w hw => Do.Of w n ([] ++ ids [(1, ⟨some g1, 56, ((Ac.ofBal 5).cells)⟩), (2, ⟨some g2, 56, ((Ac.ofBal 2).cells)⟩), (20, ⟨some g20, 56, ((Ac.ofBal 5).cells)⟩), (22, ⟨some g22, 56, ((Ac.ofBal 2).cells)⟩)]) (Ac.ofBal 5) (Ac.ofBal 2) g20 g22 1 1 (Nat.le_trans hn hw.size) (busy_lt (l1 := [(1, ⟨some g1, 56, ((Ac.ofBal 5).cells)⟩), (2, ⟨some g2, 56, ((Ac.ofBal 2).cells)⟩), (20, ⟨some g20, 56, ((Ac.ofBal 5).cells)⟩), (22, ⟨some g22, 56, ((Ac.ofBal 2).cells)⟩)]) (fun g h => by cases h) hw (by repeat (first | exact Sub.nil _ | refine Sub.cons (by first | rfl | (rw [dgs_zero]; rfl) | (rw [List.drop_length]; rfl) | (simp; done) | (congr 2; omega) | (congr 3; omega)) ?_ | exact Sub.refl _ | refine sub_snap ?_ rfl)) rfl) (row1A (hw.blkCs (k := 20) rfl)) (row1A (hw.blkCs (k := 22) rfl)) (Nat.le_refl _) (Nat.le_refl _) (ofBal_ok 5) (ofBal_ok 2) rfl rfl rfl rfl rfl rfl rfl) (fun i23 W23 hP23 hW23 => ?_)
  obtain ⟨hv23, hr23, hf23, hc23⟩ := hP23
  have hVW23 := hW23.sub (Sub.nil _)
  obtain ⟨ds23, id23, cd23, sp23⟩ := i23
  dsimp only at hv23 hr23 hf23 hc23
  obtain ⟨c, rfl, hcv⟩ := one_ch (hv23.trans awake_bt)
  obtain hcb := chBal hcv
  obtain ⟨gd, rfl⟩ := some_row hr23 (Nat.zero_lt_succ _)
  have hkd : 1 ≤ cd23 := hr23.le
  refine J.move rfl rfl ?_
  refine J.extract rfl rfl rfl ?_
  refine J.extract rfl rfl rfl ?_
  refine J.assign rfl rfl ?_
  refine J.assign rfl rfl ?_
  refine J.end ?_
  refine X.then ?_
  refine T.seq ?_
  refine T.text [.l, .l, .l, .l, .l, .l, .l, .l, .l] rfl ?_
  refine J.loadN (k := .l) trivial 1 rfl rfl agg56 ((Ac.ofBal 5).cells) rfl rfl rfl ?_
  refine J.lit1 28 rfl Tryz.underlying22 el56 (by decide) rfl ((Ac.ofBal 5).cells) rfl rfl rfl (fun g28 hg28 => ?_)
  refine J.move rfl rfl ?_
  refine J.callB fok24 rfl rfl _ _ [(1, ⟨some g1, 56, ((Ac.ofBal 5).cells)⟩), (2, ⟨some g2, 56, ((Ac.ofBal 2).cells)⟩), (20, ⟨some g20, 56, ((Ac.ofBal 5).cells)⟩), (22, ⟨some g22, 56, ((Ac.ofBal 2).cells)⟩), (28, ⟨some g28, 56, ((Ac.ofBal 5).cells)⟩)] (by repeat (first | exact Sub.nil _ | refine Sub.cons (by first | rfl | (rw [dgs_zero]; rfl) | (rw [List.drop_length]; rfl) | (simp; done) | (congr 2; omega) | (congr 3; omega)) ?_ | exact Sub.refl _ | refine sub_snap ?_ rfl)) rfl (fun _ _ => Sub.nil _) (fun w hw => Dp.Apply w n ([] ++ ids [(1, ⟨some g1, 56, ((Ac.ofBal 5).cells)⟩), (2, ⟨some g2, 56, ((Ac.ofBal 2).cells)⟩), (20, ⟨some g20, 56, ((Ac.ofBal 5).cells)⟩), (22, ⟨some g22, 56, ((Ac.ofBal 2).cells)⟩), (28, ⟨some g28, 56, ((Ac.ofBal 5).cells)⟩)]) (Ac.ofBal 5) c g28 gd 1 cd23 (Nat.le_trans hn hw.size) (busy_lt (l1 := [(1, ⟨some g1, 56, ((Ac.ofBal 5).cells)⟩), (2, ⟨some g2, 56, ((Ac.ofBal 2).cells)⟩), (20, ⟨some g20, 56, ((Ac.ofBal 5).cells)⟩), (22, ⟨some g22, 56, ((Ac.ofBal 2).cells)⟩), (28, ⟨some g28, 56, ((Ac.ofBal 5).cells)⟩)]) (fun g h => by cases h) hw (by repeat (first | exact Sub.nil _ | refine Sub.cons (by first | rfl | (rw [dgs_zero]; rfl) | (rw [List.drop_length]; rfl) | (simp; done) | (congr 2; omega) | (congr 3; omega)) ?_ | exact Sub.refl _ | refine sub_snap ?_ rfl)) rfl) (row1A (hw.blkCs (k := 28) rfl)) ((hf23.keep (keep_snap (I := [some g1, some g2, some g20, some g22]) (B0 := []) (l1 := [(1, ⟨some g1, 56, ((Ac.ofBal 5).cells)⟩), (2, ⟨some g2, 56, ((Ac.ofBal 2).cells)⟩), (20, ⟨some g20, 56, ((Ac.ofBal 5).cells)⟩), (22, ⟨some g22, 56, ((Ac.ofBal 2).cells)⟩), (28, ⟨some g28, 56, ((Ac.ofBal 5).cells)⟩)]) hVW23 hn (fun g hg => by cases hg) hw (by repeat (first | exact Sub.refl _ | refine sub_snap ?_ rfl)) (by repeat (first | exact Sub.nil _ | refine Sub.cons (by first | rfl | (rw [dgs_zero]; rfl) | (rw [List.drop_length]; rfl) | (simp; done) | (congr 2; omega) | (congr 3; omega)) ?_ | exact Sub.refl _ | refine sub_snap ?_ rfl)) rfl)).cs) (Nat.le_refl _) hkd (by decide) rfl rfl rfl ((hc23.keep (keep_snap (I := [some g1, some g2, some g20, some g22]) (B0 := []) (l1 := [(1, ⟨some g1, 56, ((Ac.ofBal 5).cells)⟩), (2, ⟨some g2, 56, ((Ac.ofBal 2).cells)⟩), (20, ⟨some g20, 56, ((Ac.ofBal 5).cells)⟩), (22, ⟨some g22, 56, ((Ac.ofBal 2).cells)⟩), (28, ⟨some g28, 56, ((Ac.ofBal 5).cells)⟩)]) hVW23 hn (fun g hg => by cases hg) hw (by repeat (first | exact Sub.refl _ | refine sub_snap ?_ rfl)) (by repeat (first | exact Sub.nil _ | refine Sub.cons (by first | rfl | (rw [dgs_zero]; rfl) | (rw [List.drop_length]; rfl) | (simp; done) | (congr 2; omega) | (congr 3; omega)) ?_ | exact Sub.refl _ | refine sub_snap ?_ rfl)) rfl)).head) (by rw [hcv]; exact may_bal (by decide)) hcb.kd hcb.oc hcb.nc hcb.old (by rw [hcb.new]; decide) hcb.who) (fun i30 W30 hP30 hW30 => ?_)
  obtain ⟨hr30, hf30⟩ := hP30
  have kpW30 := (keep_snap (I := [some g1, some g2, some g20, some g22]) (B0 := []) (l1 := [(1, ⟨some g1, 56, ((Ac.ofBal 5).cells)⟩), (2, ⟨some g2, 56, ((Ac.ofBal 2).cells)⟩), (20, ⟨some g20, 56, ((Ac.ofBal 5).cells)⟩), (22, ⟨some g22, 56, ((Ac.ofBal 2).cells)⟩), (28, ⟨some g28, 56, ((Ac.ofBal 5).cells)⟩)]) hVW23 hn (fun g hg => by cases hg) hW30 (by repeat (first | exact Sub.refl _ | refine sub_snap ?_ rfl)) (by repeat (first | exact Sub.nil _ | refine Sub.cons (by first | rfl | (rw [dgs_zero]; rfl) | (rw [List.drop_length]; rfl) | (simp; done) | (congr 2; omega) | (congr 3; omega)) ?_ | exact Sub.refl _ | refine sub_snap ?_ rfl)) rfl)
  have hf23 := hf23.keep kpW30
  have hc23 := hc23.keep kpW30
  have hVW30 := hW30.sub (Sub.nil _)
  obtain ⟨q30, id30, cd30, sp30⟩ := i30
  dsimp only at hr30 hf30
  obtain ⟨gl, rfl⟩ := some_row hr30 (Nat.zero_lt_succ _)
  have hkl : 1 ≤ cd30 := hr30.le
  refine J.move rfl rfl ?_
  refine J.extract rfl rfl rfl ?_
  refine J.extract rfl rfl rfl ?_
  refine J.assign rfl rfl ?_
  refine J.assign rfl rfl ?_
  refine J.end ?_
  refine X.then ?_
  refine T.seq ?_
  refine T.text [.l, .l, .l] rfl ?_
  refine J.move rfl rfl ?_
  refine J.callB fok28 rfl rfl _ _ [(1, ⟨some g1, 56, ((Ac.ofBal 5).cells)⟩), (2, ⟨some g2, 56, ((Ac.ofBal 2).cells)⟩), (20, ⟨some g20, 56, ((Ac.ofBal 5).cells)⟩), (22, ⟨some g22, 56, ((Ac.ofBal 2).cells)⟩), (28, ⟨some g28, 56, ((Ac.ofBal 5).cells)⟩)] (by repeat (first | exact Sub.nil _ | refine Sub.cons (by first | rfl | (rw [dgs_zero]; rfl) | (rw [List.drop_length]; rfl) | (simp; done) | (congr 2; omega) | (congr 3; omega)) ?_ | exact Sub.refl _ | refine sub_snap ?_ rfl)) rfl (fun _ _ => Sub.nil _) (fun w hw => Db.Turn w n ([] ++ ids [(1, ⟨some g1, 56, ((Ac.ofBal 5).cells)⟩), (2, ⟨some g2, 56, ((Ac.ofBal 2).cells)⟩), (20, ⟨some g20, 56, ((Ac.ofBal 5).cells)⟩), (22, ⟨some g22, 56, ((Ac.ofBal 2).cells)⟩), (28, ⟨some g28, 56, ((Ac.ofBal 5).cells)⟩)]) _ _ [c] (Nat.le_trans hn hw.size) (busy_lt (l1 := [(1, ⟨some g1, 56, ((Ac.ofBal 5).cells)⟩), (2, ⟨some g2, 56, ((Ac.ofBal 2).cells)⟩), (20, ⟨some g20, 56, ((Ac.ofBal 5).cells)⟩), (22, ⟨some g22, 56, ((Ac.ofBal 2).cells)⟩), (28, ⟨some g28, 56, ((Ac.ofBal 5).cells)⟩)]) (fun g h => by cases h) hw (by repeat (first | exact Sub.nil _ | refine Sub.cons (by first | rfl | (rw [dgs_zero]; rfl) | (rw [List.drop_length]; rfl) | (simp; done) | (congr 2; omega) | (congr 3; omega)) ?_ | exact Sub.refl _ | refine sub_snap ?_ rfl)) rfl) ((hf23.keep (keep_snap (I := [some g1, some g2, some g20, some g22, some g28]) (B0 := []) (l1 := [(1, ⟨some g1, 56, ((Ac.ofBal 5).cells)⟩), (2, ⟨some g2, 56, ((Ac.ofBal 2).cells)⟩), (20, ⟨some g20, 56, ((Ac.ofBal 5).cells)⟩), (22, ⟨some g22, 56, ((Ac.ofBal 2).cells)⟩), (28, ⟨some g28, 56, ((Ac.ofBal 5).cells)⟩)]) hVW30 hn (fun g hg => by cases hg) hw (by repeat (first | exact Sub.refl _ | refine sub_snap ?_ rfl)) (by repeat (first | exact Sub.nil _ | refine Sub.cons (by first | rfl | (rw [dgs_zero]; rfl) | (rw [List.drop_length]; rfl) | (simp; done) | (congr 2; omega) | (congr 3; omega)) ?_ | exact Sub.refl _ | refine sub_snap ?_ rfl)) rfl)).cs) (hc23.keep (keep_snap (I := [some g1, some g2, some g20, some g22, some g28]) (B0 := []) (l1 := [(1, ⟨some g1, 56, ((Ac.ofBal 5).cells)⟩), (2, ⟨some g2, 56, ((Ac.ofBal 2).cells)⟩), (20, ⟨some g20, 56, ((Ac.ofBal 5).cells)⟩), (22, ⟨some g22, 56, ((Ac.ofBal 2).cells)⟩), (28, ⟨some g28, 56, ((Ac.ofBal 5).cells)⟩)]) hVW30 hn (fun g hg => by cases hg) hw (by repeat (first | exact Sub.refl _ | refine sub_snap ?_ rfl)) (by repeat (first | exact Sub.nil _ | refine Sub.cons (by first | rfl | (rw [dgs_zero]; rfl) | (rw [List.drop_length]; rfl) | (simp; done) | (congr 2; omega) | (congr 3; omega)) ?_ | exact Sub.refl _ | refine sub_snap ?_ rfl)) rfl)) (by simp)) (fun i34 W34 hP34 hW34 => ?_)
  obtain ⟨hv34, hr34, hf34, hc34⟩ := hP34
  have kpW34 := (keep_snap (I := [some g1, some g2, some g20, some g22, some g28]) (B0 := []) (l1 := [(1, ⟨some g1, 56, ((Ac.ofBal 5).cells)⟩), (2, ⟨some g2, 56, ((Ac.ofBal 2).cells)⟩), (20, ⟨some g20, 56, ((Ac.ofBal 5).cells)⟩), (22, ⟨some g22, 56, ((Ac.ofBal 2).cells)⟩), (28, ⟨some g28, 56, ((Ac.ofBal 5).cells)⟩)]) hVW30 hn (fun g hg => by cases hg) hW34 (by repeat (first | exact Sub.refl _ | refine sub_snap ?_ rfl)) (by repeat (first | exact Sub.nil _ | refine Sub.cons (by first | rfl | (rw [dgs_zero]; rfl) | (rw [List.drop_length]; rfl) | (simp; done) | (congr 2; omega) | (congr 3; omega)) ?_ | exact Sub.refl _ | refine sub_snap ?_ rfl)) rfl)
  have hf23 := hf23.keep kpW34
  have hc23 := hc23.keep kpW34
  have hf30 := hf30.keep kpW34
  have hVW34 := hW34.sub (Sub.nil _)
  obtain ⟨ds34, id34, cd34, sp34⟩ := i34
  dsimp only at hv34 hr34 hf34 hc34
  obtain ⟨t, rfl, htv0⟩ := one_ch hv34
  have htv : t.v = CV.ofBal 2 5 := by rw [htv0]; show c.v.turn = _; rw [hcv]; rfl
  obtain htb := chBal htv
  obtain ⟨gt, rfl⟩ := some_row hr34 (Nat.zero_lt_succ _)
  have hkt : 1 ≤ cd34 := hr34.le
  refine J.assign rfl rfl ?_
  refine J.end ?_
  refine X.then ?_
  refine T.seq ?_
  refine T.text [.l, .l, .l, .l, .l, .l, .l, .l] rfl ?_
  refine J.move rfl rfl ?_
  refine J.move rfl rfl ?_
  refine J.callB fok24 rfl rfl _ _ [(1, ⟨some g1, 56, ((Ac.ofBal 5).cells)⟩), (2, ⟨some g2, 56, ((Ac.ofBal 2).cells)⟩), (20, ⟨some g20, 56, ((Ac.ofBal 5).cells)⟩), (22, ⟨some g22, 56, ((Ac.ofBal 2).cells)⟩), (28, ⟨some g28, 56, ((Ac.ofBal 5).cells)⟩)] (by repeat (first | exact Sub.nil _ | refine Sub.cons (by first | rfl | (rw [dgs_zero]; rfl) | (rw [List.drop_length]; rfl) | (simp; done) | (congr 2; omega) | (congr 3; omega)) ?_ | exact Sub.refl _ | refine sub_snap ?_ rfl)) rfl (fun _ _ => Sub.nil _) (fun w hw => Dp.Apply w n ([] ++ ids [(1, ⟨some g1, 56, ((Ac.ofBal 5).cells)⟩), (2, ⟨some g2, 56, ((Ac.ofBal 2).cells)⟩), (20, ⟨some g20, 56, ((Ac.ofBal 5).cells)⟩), (22, ⟨some g22, 56, ((Ac.ofBal 2).cells)⟩), (28, ⟨some g28, 56, ((Ac.ofBal 5).cells)⟩)]) ((Ac.ofBal 5).moved c.new q30) t gl gt cd30 cd34 (Nat.le_trans hn hw.size) (busy_lt (l1 := [(1, ⟨some g1, 56, ((Ac.ofBal 5).cells)⟩), (2, ⟨some g2, 56, ((Ac.ofBal 2).cells)⟩), (20, ⟨some g20, 56, ((Ac.ofBal 5).cells)⟩), (22, ⟨some g22, 56, ((Ac.ofBal 2).cells)⟩), (28, ⟨some g28, 56, ((Ac.ofBal 5).cells)⟩)]) (fun g h => by cases h) hw (by repeat (first | exact Sub.nil _ | refine Sub.cons (by first | rfl | (rw [dgs_zero]; rfl) | (rw [List.drop_length]; rfl) | (simp; done) | (congr 2; omega) | (congr 3; omega)) ?_ | exact Sub.refl _ | refine sub_snap ?_ rfl)) rfl) ((hf30.keep (keep_snap (I := [some g1, some g2, some g20, some g22, some g28]) (B0 := []) (l1 := [(1, ⟨some g1, 56, ((Ac.ofBal 5).cells)⟩), (2, ⟨some g2, 56, ((Ac.ofBal 2).cells)⟩), (20, ⟨some g20, 56, ((Ac.ofBal 5).cells)⟩), (22, ⟨some g22, 56, ((Ac.ofBal 2).cells)⟩), (28, ⟨some g28, 56, ((Ac.ofBal 5).cells)⟩)]) hVW34 hn (fun g hg => by cases hg) hw (by repeat (first | exact Sub.refl _ | refine sub_snap ?_ rfl)) (by repeat (first | exact Sub.nil _ | refine Sub.cons (by first | rfl | (rw [dgs_zero]; rfl) | (rw [List.drop_length]; rfl) | (simp; done) | (congr 2; omega) | (congr 3; omega)) ?_ | exact Sub.refl _ | refine sub_snap ?_ rfl)) rfl)).cs) ((hf34.keep (keep_snap (I := [some g1, some g2, some g20, some g22, some g28]) (B0 := []) (l1 := [(1, ⟨some g1, 56, ((Ac.ofBal 5).cells)⟩), (2, ⟨some g2, 56, ((Ac.ofBal 2).cells)⟩), (20, ⟨some g20, 56, ((Ac.ofBal 5).cells)⟩), (22, ⟨some g22, 56, ((Ac.ofBal 2).cells)⟩), (28, ⟨some g28, 56, ((Ac.ofBal 5).cells)⟩)]) hVW34 hn (fun g hg => by cases hg) hw (by repeat (first | exact Sub.refl _ | refine sub_snap ?_ rfl)) (by repeat (first | exact Sub.nil _ | refine Sub.cons (by first | rfl | (rw [dgs_zero]; rfl) | (rw [List.drop_length]; rfl) | (simp; done) | (congr 2; omega) | (congr 3; omega)) ?_ | exact Sub.refl _ | refine sub_snap ?_ rfl)) rfl)).cs) hkl hkt (by show 0 < 18446744073709551616; decide) rfl rfl (moved_look (by rw [hcb.new]; decide)) ((hc34.keep (keep_snap (I := [some g1, some g2, some g20, some g22, some g28]) (B0 := []) (l1 := [(1, ⟨some g1, 56, ((Ac.ofBal 5).cells)⟩), (2, ⟨some g2, 56, ((Ac.ofBal 2).cells)⟩), (20, ⟨some g20, 56, ((Ac.ofBal 5).cells)⟩), (22, ⟨some g22, 56, ((Ac.ofBal 2).cells)⟩), (28, ⟨some g28, 56, ((Ac.ofBal 5).cells)⟩)]) hVW34 hn (fun g hg => by cases hg) hw (by repeat (first | exact Sub.refl _ | refine sub_snap ?_ rfl)) (by repeat (first | exact Sub.nil _ | refine Sub.cons (by first | rfl | (rw [dgs_zero]; rfl) | (rw [List.drop_length]; rfl) | (simp; done) | (congr 2; omega) | (congr 3; omega)) ?_ | exact Sub.refl _ | refine sub_snap ?_ rfl)) rfl)).head) (by rw [htv]; exact may_bal (by decide)) htb.kd htb.oc htb.nc (hcb.new.trans htb.old) (by rw [htb.new]; decide) htb.who) (fun i38 W38 hP38 hW38 => ?_)
  obtain ⟨hr38, hf38⟩ := hP38
  have kpW38 := (keep_snap (I := [some g1, some g2, some g20, some g22, some g28]) (B0 := []) (l1 := [(1, ⟨some g1, 56, ((Ac.ofBal 5).cells)⟩), (2, ⟨some g2, 56, ((Ac.ofBal 2).cells)⟩), (20, ⟨some g20, 56, ((Ac.ofBal 5).cells)⟩), (22, ⟨some g22, 56, ((Ac.ofBal 2).cells)⟩), (28, ⟨some g28, 56, ((Ac.ofBal 5).cells)⟩)]) hVW34 hn (fun g hg => by cases hg) hW38 (by repeat (first | exact Sub.refl _ | refine sub_snap ?_ rfl)) (by repeat (first | exact Sub.nil _ | refine Sub.cons (by first | rfl | (rw [dgs_zero]; rfl) | (rw [List.drop_length]; rfl) | (simp; done) | (congr 2; omega) | (congr 3; omega)) ?_ | exact Sub.refl _ | refine sub_snap ?_ rfl)) rfl)
  have hf23 := hf23.keep kpW38
  have hc23 := hc23.keep kpW38
  have hf30 := hf30.keep kpW38
  have hf34 := hf34.keep kpW38
  have hc34 := hc34.keep kpW38
  have hVW38 := hW38.sub (Sub.nil _)
  obtain ⟨q38, id38, cd38, sp38⟩ := i38
  dsimp only at hr38 hf38
  obtain ⟨gm, rfl⟩ := some_row hr38 (Nat.zero_lt_succ _)
  have hkm : 1 ≤ cd38 := hr38.le
  refine J.move rfl rfl ?_
  refine J.extract rfl rfl rfl ?_
  refine J.extract rfl rfl rfl ?_
  refine J.assign rfl rfl ?_
  refine J.assign rfl rfl ?_
  refine J.end ?_
  refine X.then ?_
  refine T.seq ?_
  refine T.text [.l, .l, .l, .l, .l, .l, .l, .l] rfl ?_
  refine J.move rfl rfl ?_
  refine J.move rfl rfl ?_
  refine J.callB fok32 rfl rfl _ _ [(1, ⟨some g1, 56, ((Ac.ofBal 5).cells)⟩), (2, ⟨some g2, 56, ((Ac.ofBal 2).cells)⟩), (20, ⟨some g20, 56, ((Ac.ofBal 5).cells)⟩), (22, ⟨some g22, 56, ((Ac.ofBal 2).cells)⟩), (28, ⟨some g28, 56, ((Ac.ofBal 5).cells)⟩)] (by repeat (first | exact Sub.nil _ | refine Sub.cons (by first | rfl | (rw [dgs_zero]; rfl) | (rw [List.drop_length]; rfl) | (simp; done) | (congr 2; omega) | (congr 3; omega)) ?_ | exact Sub.refl _ | refine sub_snap ?_ rfl)) rfl (fun _ _ => Sub.nil _) (fun w hw => Dc.Join w n ([] ++ ids [(1, ⟨some g1, 56, ((Ac.ofBal 5).cells)⟩), (2, ⟨some g2, 56, ((Ac.ofBal 2).cells)⟩), (20, ⟨some g20, 56, ((Ac.ofBal 5).cells)⟩), (22, ⟨some g22, 56, ((Ac.ofBal 2).cells)⟩), (28, ⟨some g28, 56, ((Ac.ofBal 5).cells)⟩)]) _ _ _ _ [c] [t] (Nat.le_trans hn hw.size) (busy_lt (l1 := [(1, ⟨some g1, 56, ((Ac.ofBal 5).cells)⟩), (2, ⟨some g2, 56, ((Ac.ofBal 2).cells)⟩), (20, ⟨some g20, 56, ((Ac.ofBal 5).cells)⟩), (22, ⟨some g22, 56, ((Ac.ofBal 2).cells)⟩), (28, ⟨some g28, 56, ((Ac.ofBal 5).cells)⟩)]) (fun g h => by cases h) hw (by repeat (first | exact Sub.nil _ | refine Sub.cons (by first | rfl | (rw [dgs_zero]; rfl) | (rw [List.drop_length]; rfl) | (simp; done) | (congr 2; omega) | (congr 3; omega)) ?_ | exact Sub.refl _ | refine sub_snap ?_ rfl)) rfl) ((hf23.keep (keep_snap (I := [some g1, some g2, some g20, some g22, some g28]) (B0 := []) (l1 := [(1, ⟨some g1, 56, ((Ac.ofBal 5).cells)⟩), (2, ⟨some g2, 56, ((Ac.ofBal 2).cells)⟩), (20, ⟨some g20, 56, ((Ac.ofBal 5).cells)⟩), (22, ⟨some g22, 56, ((Ac.ofBal 2).cells)⟩), (28, ⟨some g28, 56, ((Ac.ofBal 5).cells)⟩)]) hVW38 hn (fun g hg => by cases hg) hw (by repeat (first | exact Sub.refl _ | refine sub_snap ?_ rfl)) (by repeat (first | exact Sub.nil _ | refine Sub.cons (by first | rfl | (rw [dgs_zero]; rfl) | (rw [List.drop_length]; rfl) | (simp; done) | (congr 2; omega) | (congr 3; omega)) ?_ | exact Sub.refl _ | refine sub_snap ?_ rfl)) rfl)).cs) hkd (hc23.keep (keep_snap (I := [some g1, some g2, some g20, some g22, some g28]) (B0 := []) (l1 := [(1, ⟨some g1, 56, ((Ac.ofBal 5).cells)⟩), (2, ⟨some g2, 56, ((Ac.ofBal 2).cells)⟩), (20, ⟨some g20, 56, ((Ac.ofBal 5).cells)⟩), (22, ⟨some g22, 56, ((Ac.ofBal 2).cells)⟩), (28, ⟨some g28, 56, ((Ac.ofBal 5).cells)⟩)]) hVW38 hn (fun g hg => by cases hg) hw (by repeat (first | exact Sub.refl _ | refine sub_snap ?_ rfl)) (by repeat (first | exact Sub.nil _ | refine Sub.cons (by first | rfl | (rw [dgs_zero]; rfl) | (rw [List.drop_length]; rfl) | (simp; done) | (congr 2; omega) | (congr 3; omega)) ?_ | exact Sub.refl _ | refine sub_snap ?_ rfl)) rfl)) ((hf34.keep (keep_snap (I := [some g1, some g2, some g20, some g22, some g28]) (B0 := []) (l1 := [(1, ⟨some g1, 56, ((Ac.ofBal 5).cells)⟩), (2, ⟨some g2, 56, ((Ac.ofBal 2).cells)⟩), (20, ⟨some g20, 56, ((Ac.ofBal 5).cells)⟩), (22, ⟨some g22, 56, ((Ac.ofBal 2).cells)⟩), (28, ⟨some g28, 56, ((Ac.ofBal 5).cells)⟩)]) hVW38 hn (fun g hg => by cases hg) hw (by repeat (first | exact Sub.refl _ | refine sub_snap ?_ rfl)) (by repeat (first | exact Sub.nil _ | refine Sub.cons (by first | rfl | (rw [dgs_zero]; rfl) | (rw [List.drop_length]; rfl) | (simp; done) | (congr 2; omega) | (congr 3; omega)) ?_ | exact Sub.refl _ | refine sub_snap ?_ rfl)) rfl)).cs) hkt (hc34.keep (keep_snap (I := [some g1, some g2, some g20, some g22, some g28]) (B0 := []) (l1 := [(1, ⟨some g1, 56, ((Ac.ofBal 5).cells)⟩), (2, ⟨some g2, 56, ((Ac.ofBal 2).cells)⟩), (20, ⟨some g20, 56, ((Ac.ofBal 5).cells)⟩), (22, ⟨some g22, 56, ((Ac.ofBal 2).cells)⟩), (28, ⟨some g28, 56, ((Ac.ofBal 5).cells)⟩)]) hVW38 hn (fun g hg => by cases hg) hw (by repeat (first | exact Sub.refl _ | refine sub_snap ?_ rfl)) (by repeat (first | exact Sub.nil _ | refine Sub.cons (by first | rfl | (rw [dgs_zero]; rfl) | (rw [List.drop_length]; rfl) | (simp; done) | (congr 2; omega) | (congr 3; omega)) ?_ | exact Sub.refl _ | refine sub_snap ?_ rfl)) rfl)) (by simp) (by simp)) (fun i44 W44 hP44 hW44 => ?_)
  obtain ⟨hv44, hr44, hf44, hc44⟩ := hP44
  have kpW44 := (keep_snap (I := [some g1, some g2, some g20, some g22, some g28]) (B0 := []) (l1 := [(1, ⟨some g1, 56, ((Ac.ofBal 5).cells)⟩), (2, ⟨some g2, 56, ((Ac.ofBal 2).cells)⟩), (20, ⟨some g20, 56, ((Ac.ofBal 5).cells)⟩), (22, ⟨some g22, 56, ((Ac.ofBal 2).cells)⟩), (28, ⟨some g28, 56, ((Ac.ofBal 5).cells)⟩)]) hVW38 hn (fun g hg => by cases hg) hW44 (by repeat (first | exact Sub.refl _ | refine sub_snap ?_ rfl)) (by repeat (first | exact Sub.nil _ | refine Sub.cons (by first | rfl | (rw [dgs_zero]; rfl) | (rw [List.drop_length]; rfl) | (simp; done) | (congr 2; omega) | (congr 3; omega)) ?_ | exact Sub.refl _ | refine sub_snap ?_ rfl)) rfl)
  have hf23 := hf23.keep kpW44
  have hc23 := hc23.keep kpW44
  have hf30 := hf30.keep kpW44
  have hf34 := hf34.keep kpW44
  have hc34 := hc34.keep kpW44
  have hf38 := hf38.keep kpW44
  have hVW44 := hW44.sub (Sub.nil _)
  obtain ⟨ds44, r44⟩ := i44
  have hj44 : joinZ ([c].map Ch.v) ([t].map Ch.v) = ([], 0) := by show joinZ [c.v] [t.v] = _; rw [hcv, htv]; exact awake_join
  dsimp only at hv44 hr44
  rw [hj44] at hv44
  obtain rfl := none_ch hv44
  refine J.as 44 (.tuple #[r44.val 0, .int .i64 0]) rfl (by rw [hj44]; rfl) ?_
  refine J.move rfl rfl ?_
  refine J.extract rfl rfl rfl ?_
  refine J.extract rfl rfl rfl ?_
  refine J.assign rfl rfl ?_
  refine J.assign rfl rfl ?_
  refine J.end ?_
  refine X.then ?_
  refine T.seq ?_
  refine T.text [.l, .l, .l] rfl ?_
  refine J.move rfl rfl ?_
  refine J.call0 (k := .l) trivial fok29 rfl rfl (fun w hw => Dd.Apart w n _ _ none _ 0 [c] [] ((hf23.keep (keep_snap (I := [some g1, some g2, some g20, some g22, some g28]) (B0 := []) (l1 := []) hVW44 hn (fun g hg => by cases hg) hw (by repeat (first | exact Sub.refl _ | refine sub_snap ?_ rfl)) (Sub.nil _) rfl)).cs) (hc23.keep (keep_snap (I := [some g1, some g2, some g20, some g22, some g28]) (B0 := []) (l1 := []) hVW44 hn (fun g hg => by cases hg) hw (by repeat (first | exact Sub.refl _ | refine sub_snap ?_ rfl)) (Sub.nil _) rfl)) (Cs.nil _ _) AllC.nil (by simp) (by simp)) ?_
  refine J.as 48 (.bool true) rfl (by rw [decide_eq_true (show apartL ([c].map Ch.v) (([] : List Ch).map Ch.v) from apart_nil _)]) ?_
  refine J.assign rfl rfl ?_
  refine J.end ?_
  refine X.then ?_
  refine T.seq ?_
  refine T.text [.l, .l, .l, .l] rfl ?_
  refine J.move rfl rfl ?_
  refine J.move rfl rfl ?_
  refine J.call0 (k := .l) trivial fok29 rfl rfl (fun w hw => Dd.Apart w n _ _ _ _ _ [c] [t] ((hf23.keep (keep_snap (I := [some g1, some g2, some g20, some g22, some g28]) (B0 := []) (l1 := []) hVW44 hn (fun g hg => by cases hg) hw (by repeat (first | exact Sub.refl _ | refine sub_snap ?_ rfl)) (Sub.nil _) rfl)).cs) (hc23.keep (keep_snap (I := [some g1, some g2, some g20, some g22, some g28]) (B0 := []) (l1 := []) hVW44 hn (fun g hg => by cases hg) hw (by repeat (first | exact Sub.refl _ | refine sub_snap ?_ rfl)) (Sub.nil _) rfl)) ((hf34.keep (keep_snap (I := [some g1, some g2, some g20, some g22, some g28]) (B0 := []) (l1 := []) hVW44 hn (fun g hg => by cases hg) hw (by repeat (first | exact Sub.refl _ | refine sub_snap ?_ rfl)) (Sub.nil _) rfl)).cs) (hc34.keep (keep_snap (I := [some g1, some g2, some g20, some g22, some g28]) (B0 := []) (l1 := []) hVW44 hn (fun g hg => by cases hg) hw (by repeat (first | exact Sub.refl _ | refine sub_snap ?_ rfl)) (Sub.nil _) rfl)) (by simp) (by simp)) ?_
  refine J.as 51 (.bool false) rfl (by rw [decide_eq_false (show ¬ apartL ([c].map Ch.v) ([t].map Ch.v) by show ¬ apartL [c.v] [t.v]; rw [hcv, htv]; exact awake_apart)]) ?_
  refine J.assign rfl rfl ?_
  refine J.end ?_
  refine X.then ?_
  refine T.seq ?_
  refine T.seq ?_
  refine T.text [.l, .l, .l, .l, .l, .l, .l, .l, .l, .l, .l, .l, .l, .l, .l, .l, .l, .l, .l, .l, .l, .l, .l, .l, .l, .l] rfl ?_
  refine J.move rfl rfl ?_
  refine J.neq rfl rfl rfl (decide_eq_false (by first | omega | rfl | assumption | (simp only [*]; done))) ?_
  refine J.move rfl rfl ?_
  refine J.yes rfl rfl ?_
  refine J.move rfl rfl ?_
  refine J.yes rfl rfl ?_
  refine J.neq rfl rfl rfl (decide_eq_false (by first | omega | rfl | assumption | (simp only [*]; done))) ?_
  refine J.pick_f rfl rfl rfl ?_
  refine J.move rfl rfl ?_
  refine J.yes rfl rfl ?_
  refine J.move rfl rfl ?_
  refine J.yes rfl rfl ?_
  refine J.neq rfl rfl rfl (decide_eq_false (by first | omega | rfl | assumption | (simp only [*]; done))) ?_
  refine J.pick_f rfl rfl rfl ?_
  refine J.move rfl rfl ?_
  refine J.yes rfl rfl ?_
  refine J.move rfl rfl ?_
  refine J.yes rfl rfl ?_
  refine J.neq rfl rfl rfl (decide_eq_false (by first | omega | rfl | assumption | (simp only [*]; done))) ?_
  refine J.pick_f rfl rfl rfl ?_
  refine J.move rfl rfl ?_
  refine J.yes rfl rfl ?_
  refine J.move rfl rfl ?_
  refine J.yes rfl rfl ?_
  refine J.lenSl Tryz.underlying25 rfl rfl ?_
  refine J.yes rfl rfl ?_
  refine J.neq rfl rfl rfl (decide_eq_false (by first | omega | rfl | assumption | (simp only [*]; done))) ?_
  refine J.pick_f rfl rfl rfl ?_
  refine J.move rfl rfl ?_
  refine J.yes rfl rfl ?_
  refine J.move rfl rfl ?_
  refine J.yes rfl rfl ?_
  refine J.not rfl rfl rfl ?_
  refine J.pick_f rfl rfl rfl ?_
  refine J.move rfl rfl ?_
  refine J.yes rfl rfl ?_
  refine J.move rfl rfl ?_
  refine J.pick_f rfl rfl rfl ?_
  refine J.end ?_
  refine X.then ?_
  refine T.cond_false rfl ?_
  refine T.skip ?_
  refine X.then ?_
  refine T.seq ?_
  refine T.text [.l, .l, .l, .l, .l, .l, .l, .l, .l, .l, .l, .l, .l, .l, .l, .l, .l, .l, .l] rfl ?_
  refine J.move rfl rfl ?_
  refine J.loadN (k := .l) trivial 2 rfl rfl agg56 ((Ac.ofBal 2).cells) rfl rfl rfl ?_
  refine J.lit1 80 rfl Tryz.underlying22 el56 (by decide) rfl ((Ac.ofBal 2).cells) rfl rfl rfl (fun g80 hg80 => ?_)
  refine J.call0 (k := .l) trivial fok26 rfl rfl (fun w hw => Dq.worlds w _ _ _ _ ((Ac.ofBal 5).moved c.new q30) (Ac.ofBal 2) ((hf30.keep (keep_snap (I := [some g1, some g2, some g20, some g22, some g28]) (B0 := []) (l1 := []) hVW44 hn (fun g hg => by cases hg) hw (by repeat (first | exact Sub.refl _ | refine sub_snap ?_ rfl)) (Sub.nil _) rfl)).cs) (row1A (hw.blkCs (k := 80) rfl)) rfl rfl (hcb.new.trans rfl) rfl rfl rfl rfl) ?_
  refine J.move rfl rfl ?_
  refine J.yes rfl rfl ?_
  refine J.move rfl rfl ?_
  refine J.yes rfl rfl ?_
  refine J.loadN (k := .l) trivial 1 rfl rfl agg56 ((Ac.ofBal 5).cells) rfl rfl rfl ?_
  refine J.yes rfl rfl ?_
  refine J.lit1 85 rfl Tryz.underlying22 el56 (by decide) rfl ((Ac.ofBal 5).cells) rfl rfl rfl (fun g85 hg85 => ?_)
  refine J.yes rfl rfl ?_
  refine J.call0 (k := .l) trivial fok26 rfl rfl (fun w hw => Dq.worlds w _ _ _ _ (((Ac.ofBal 5).moved c.new q30).moved t.new q38) (Ac.ofBal 5) ((hf38.keep (keep_snap (I := [some g1, some g2, some g20, some g22, some g28]) (B0 := []) (l1 := []) hVW44 hn (fun g hg => by cases hg) hw (by repeat (first | exact Sub.refl _ | refine sub_snap ?_ rfl)) (Sub.nil _) rfl)).cs) (row1A (hw.blkCs (k := 85) rfl)) rfl rfl (htb.new.trans rfl) rfl rfl rfl rfl) ?_
  refine J.pick_t rfl rfl rfl ?_
  refine J.move rfl rfl ?_
  refine J.yes rfl rfl ?_
  refine J.move rfl rfl ?_
  refine J.yes rfl rfl ?_
  refine J.build rfl rfl (W 5) (fun w => by kernel_rfl) ?_
  refine J.yes rfl rfl ?_
  refine J.build rfl rfl (W 2) (fun w => by kernel_rfl) ?_
  refine J.yes rfl rfl ?_
  refine J.build rfl rfl (.agg (Ch.ofBal 5 2).cells.toArray) (fun w => by kernel_rfl) ?_
  refine J.yes rfl rfl ?_
  refine J.lit1 93 rfl Tryz.underlying25 el53 (by decide) rfl ((Ch.ofBal 5 2).cells) rfl rfl rfl (fun g93 hg93 => ?_)
  refine J.yes rfl rfl ?_
  refine J.call0 (k := .l) trivial fok20 rfl rfl (fun w hw => Df.same w n _ _ _ _ _ [c] [Ch.ofBal 5 2] ((hf23.keep (keep_snap (I := [some g1, some g2, some g20, some g22, some g28]) (B0 := []) (l1 := []) hVW44 hn (fun g hg => by cases hg) hw (by repeat (first | exact Sub.refl _ | refine sub_snap ?_ rfl)) (Sub.nil _) rfl)).cs) (hc23.keep (keep_snap (I := [some g1, some g2, some g20, some g22, some g28]) (B0 := []) (l1 := []) hVW44 hn (fun g hg => by cases hg) hw (by repeat (first | exact Sub.refl _ | refine sub_snap ?_ rfl)) (Sub.nil _) rfl)) (row1C (hw.blkCs (k := 93) rfl)) (AllC.snoc AllC.nil (chBal_ok 5 2)) (by simp) (by simp)) ?_
  refine J.as 94 (.bool true) rfl (by rw [decide_eq_true (show [c].map Ch.v = [Ch.ofBal 5 2].map Ch.v by show [c.v] = [(Ch.ofBal 5 2).v]; rw [hcv]; rfl)]) ?_
  refine J.pick_t rfl rfl rfl ?_
  refine J.assign rfl rfl ?_
  refine J.end ?_
  refine X.then ?_
  refine T.ret ?_
  exact X.ret1 rfl (RV.tmp rfl) (fun w' hw' => ⟨rfl, hw'.sub (Sub.nil _)⟩)
end Go.Proofs.YtlllcafedekojaaGreatDoor.Dr
set_option linter.unusedVariables false
set_option maxRecDepth 20000
namespace Go.Proofs.YtlllcafedekojaaGreatDoor.Ed
open Go Go.Fw

theorem sz287 : SizeT Tryz.prog 287 32 := (by unfold SizeT; kernel_rfl)
theorem fok22 : FnOk Tryz.prog 22 := FnOk.mk' Tryz.func22 (by kernel_rfl) rfl
theorem fok19 : FnOk Tryz.prog 19 := FnOk.mk' Tryz.func19 (by kernel_rfl) rfl
theorem fok23 : FnOk Tryz.prog 23 := FnOk.mk' Tryz.func23 (by kernel_rfl) rfl
theorem fok32 : FnOk Tryz.prog 32 := FnOk.mk' Tryz.func32 (by kernel_rfl) rfl
theorem fok28 : FnOk Tryz.prog 28 := FnOk.mk' Tryz.func28 (by kernel_rfl) rfl
theorem fok20 : FnOk Tryz.prog 20 := FnOk.mk' Tryz.func20 (by kernel_rfl) rfl

set_option maxHeartbeats 8000000 in
theorem DiffGroups (w : World) (A0 : Option Addr) (c0 : Nat) (xs0 : List Ch) (hx0 : Cs w A0 (rowC xs0)) (i0_ : ∀ x ∈ xs0, x.In w) (l0 : xs0.length ≤ 1000000000000) (A1 : Option Addr) (c1 : Nat) (xs1 : List Ch) (hx1 : Cs w A1 (rowC xs1)) (i1_ : ∀ x ∈ xs1, x.In w) (l1 : xs1.length ≤ 1000000000000) (A2 : Option Addr) (c2 : Nat) (xs2 : List Ch) (hx2 : Cs w A2 (rowC xs2)) (i2_ : ∀ x ∈ xs2, x.In w) (l2 : xs2.length ≤ 1000000000000) :
    Calls Tryz.prog 11 [.slice A0 xs0.length c0, .slice A1 xs1.length c1, .slice A2 xs2.length c2].toArray w fun e w' => e = .returned (.bool true) ∧ WS w [] [] w' := by
  obtain ⟨n, hn0⟩ : ∃ n, n = w.heap.size := ⟨_, rfl⟩
  have hn : n ≤ w.heap.size := Nat.le_of_eq hn0
  refine calls_of_T [] 110 [] Tryz.func11 rfl Tryz.ntmps11 (by simp) (WS.refl _ _) ?_
  refine T.seq ?_
  refine T.text [.l] rfl ?_
  refine J.assign rfl rfl ?_
  refine J.end ?_
  refine X.then ?_
  refine T.seq ?_
  refine T.seq ?_
  refine T.text [.l, .l, .l, .l, .l, .l, .l, .l, .l, .l, .l, .l, .l] rfl ?_
  refine J.move rfl rfl ?_
  refine J.call0 (k := .l) trivial fok22 rfl rfl (fun w hw => Df.load w _ _ xs0 (hx0.ws hw (off_nil _)) (in_load i0_) (by omega)) ?_
  refine J.gtr rfl rfl rfl rfl ?_
  refine J.move rfl rfl ?_
  refine J.split 22 rfl (fun h1 => ?_) (fun h1 => ?_)
  · skip
    refine J.no rfl rfl rfl rfl ?_
    refine J.no rfl rfl rfl rfl ?_
    refine J.no rfl rfl rfl rfl ?_
    refine J.pick_t rfl rfl rfl ?_
    refine J.move rfl rfl ?_
    refine J.no rfl rfl rfl rfl ?_
    refine J.no rfl rfl rfl rfl ?_
    refine J.no rfl rfl rfl rfl ?_
    refine J.pick_t rfl rfl rfl ?_
    refine J.end ?_
    refine X.then ?_
    refine T.cond_true rfl ?_
    refine T.seq ?_
    refine T.text [.l] rfl ?_
    refine J.assign rfl rfl ?_
    refine J.end ?_
    refine X.then ?_
    refine T.ret ?_
    refine X.then_ret ?_
    exact X.ret1 rfl (RV.tmp rfl) (fun w' hw' => ⟨rfl, hw'.sub (Sub.nil _)⟩)
  · have L0 : loadR xs0.length xs0 ≤ 262144 := by omega
    have G0 := loadR_ge xs0 xs0.length
    have d0 := in_ok hn0 i0_ L0
    refine J.yes rfl rfl ?_
    refine J.move rfl rfl ?_
    refine J.yes rfl rfl ?_
    refine J.call0 (k := .l) trivial fok22 rfl rfl (fun w hw => Df.load w _ _ xs1 (hx1.ws hw (off_nil _)) (in_load i1_) (by omega)) ?_
    refine J.yes rfl rfl ?_
    refine J.gtr rfl rfl rfl rfl ?_
    refine J.pick_f rfl rfl rfl ?_
    refine J.move rfl rfl ?_
    refine J.split 27 rfl (fun h2 => ?_) (fun h2 => ?_)
    · skip
      refine J.no rfl rfl rfl rfl ?_
      refine J.no rfl rfl rfl rfl ?_
      refine J.no rfl rfl rfl rfl ?_
      refine J.pick_t rfl rfl rfl ?_
      refine J.end ?_
      refine X.then ?_
      refine T.cond_true rfl ?_
      refine T.seq ?_
      refine T.text [.l] rfl ?_
      refine J.assign rfl rfl ?_
      refine J.end ?_
      refine X.then ?_
      refine T.ret ?_
      refine X.then_ret ?_
      exact X.ret1 rfl (RV.tmp rfl) (fun w' hw' => ⟨rfl, hw'.sub (Sub.nil _)⟩)
    · have L1 : loadR xs1.length xs1 ≤ 262144 := by omega
      have G1 := loadR_ge xs1 xs1.length
      have d1 := in_ok hn0 i1_ L1
      refine J.yes rfl rfl ?_
      refine J.move rfl rfl ?_
      refine J.yes rfl rfl ?_
      refine J.call0 (k := .l) trivial fok22 rfl rfl (fun w hw => Df.load w _ _ xs2 (hx2.ws hw (off_nil _)) (in_load i2_) (by omega)) ?_
      refine J.yes rfl rfl ?_
      refine J.gtr rfl rfl rfl rfl ?_
      refine J.pick_f rfl rfl rfl ?_
      refine J.end ?_
      refine X.then ?_
      refine T.cond_dec rfl (fun h3 => ?_) (fun h3 => ?_)
      · skip
        refine T.seq ?_
        refine T.text [.l] rfl ?_
        refine J.assign rfl rfl ?_
        refine J.end ?_
        refine X.then ?_
        refine T.ret ?_
        refine X.then_ret ?_
        exact X.ret1 rfl (RV.tmp rfl) (fun w' hw' => ⟨rfl, hw'.sub (Sub.nil _)⟩)
      · have L2 : loadR xs2.length xs2 ≤ 262144 := by omega
        have G2 := loadR_ge xs2 xs2.length
        have d2 := in_ok hn0 i2_ L2
        refine T.skip ?_
        refine X.then ?_
        refine T.seq ?_
        refine T.text [.l, .l] rfl ?_
        refine J.call0 (k := .l) trivial fok19 rfl rfl (fun w hw => Dr.awake w) ?_
        refine J.assign rfl rfl ?_
        refine J.end ?_
        refine X.then ?_
        refine T.seq ?_
        refine T.seq ?_
        refine T.text [.l, .l] rfl ?_
        refine J.move rfl rfl ?_
        refine J.not rfl rfl rfl ?_
        refine J.end ?_
        refine X.then ?_
        refine T.cond_false rfl ?_
        refine T.skip ?_
        refine X.then ?_
        refine T.seq ?_
        refine T.text [.l, .l, .l, .l, .l, .l, .l, .l, .l, .l] rfl ?_
        refine J.move rfl rfl ?_
        refine J.callB fok23 rfl rfl _ _ [] (by repeat (first | exact Sub.nil _ | refine Sub.cons (by first | rfl | (rw [dgs_zero]; rfl) | (rw [List.drop_length]; rfl) | (simp; done) | (congr 2; omega) | (congr 3; omega)) ?_ | exact Sub.refl _ | refine sub_snap ?_ rfl)) rfl (fun _ _ => Sub.nil _) (fun w hw => Df.lendTurns w n ([] ++ ids []) _ _ xs0 (Nat.le_trans hn hw.size) (busy_lt (l1 := []) (fun g h => by cases h) hw (by repeat (first | exact Sub.nil _ | refine Sub.cons (by first | rfl | (rw [dgs_zero]; rfl) | (rw [List.drop_length]; rfl) | (simp; done) | (congr 2; omega) | (congr 3; omega)) ?_ | exact Sub.refl _ | refine sub_snap ?_ rfl)) rfl) (hx0.ws hw (off_nil _)) (d0.keep (keep_base (B0 := []) (l1 := []) hn (fun g hg => by cases hg) hw (Sub.nil _) rfl)) (loadR_small xs0 _ L0) (by omega)) (fun i37 W37 hP37 hW37 => ?_)
        obtain ⟨hv37, ha37, hf37, hp37⟩ := hP37
        have kpW37 := (keep_base (B0 := []) (l1 := []) hn (fun g hg => by cases hg) hW37 (Sub.nil _) rfl)
        have d0 := d0.keep kpW37
        have d1 := d1.keep kpW37
        have d2 := d2.keep kpW37
        have hVW37 := hW37.sub (Sub.nil _)
        obtain ⟨x37, r37⟩ := i37
        dsimp only at hv37 ha37 hf37 hp37
        have ln37 := len_v hv37
        refine J.move rfl rfl ?_
        refine J.callB fok23 rfl rfl _ _ [] (by repeat (first | exact Sub.nil _ | refine Sub.cons (by first | rfl | (rw [dgs_zero]; rfl) | (rw [List.drop_length]; rfl) | (simp; done) | (congr 2; omega) | (congr 3; omega)) ?_ | exact Sub.refl _ | refine sub_snap ?_ rfl)) rfl (fun _ _ => Sub.nil _) (fun w hw => Df.lendTurns w n ([] ++ ids []) _ _ xs1 (Nat.le_trans hn hw.size) (busy_lt (l1 := []) (fun g h => by cases h) hw (by repeat (first | exact Sub.nil _ | refine Sub.cons (by first | rfl | (rw [dgs_zero]; rfl) | (rw [List.drop_length]; rfl) | (simp; done) | (congr 2; omega) | (congr 3; omega)) ?_ | exact Sub.refl _ | refine sub_snap ?_ rfl)) rfl) (hx1.ws hw (off_nil _)) (d1.keep (keep_snap (I := []) (B0 := []) (l1 := []) hVW37 hn (fun g hg => by cases hg) hw (by repeat (first | exact Sub.refl _ | refine sub_snap ?_ rfl)) (Sub.nil _) rfl)) (loadR_small xs1 _ L1) (by omega)) (fun i39 W39 hP39 hW39 => ?_)
        obtain ⟨hv39, ha39, hf39, hp39⟩ := hP39
        have kpW39 := (keep_snap (I := []) (B0 := []) (l1 := []) hVW37 hn (fun g hg => by cases hg) hW39 (by repeat (first | exact Sub.refl _ | refine sub_snap ?_ rfl)) (Sub.nil _) rfl)
        have d0 := d0.keep kpW39
        have d1 := d1.keep kpW39
        have d2 := d2.keep kpW39
        have ha37 := ha37.keep kpW39
        have hf37 := hf37.keep kpW39
        have hVW39 := hW39.sub (Sub.nil _)
        obtain ⟨x39, r39⟩ := i39
        dsimp only at hv39 ha39 hf39 hp39
        have ln39 := len_v hv39
        refine J.callB fok32 rfl rfl _ _ [] (by repeat (first | exact Sub.nil _ | refine Sub.cons (by first | rfl | (rw [dgs_zero]; rfl) | (rw [List.drop_length]; rfl) | (simp; done) | (congr 2; omega) | (congr 3; omega)) ?_ | exact Sub.refl _ | refine sub_snap ?_ rfl)) rfl (fun _ _ => Sub.nil _) (fun w hw => Dc.Join w n ([] ++ ids []) _ _ _ _ x37 x39 (Nat.le_trans hn hw.size) (busy_lt (l1 := []) (fun g h => by cases h) hw (by repeat (first | exact Sub.nil _ | refine Sub.cons (by first | rfl | (rw [dgs_zero]; rfl) | (rw [List.drop_length]; rfl) | (simp; done) | (congr 2; omega) | (congr 3; omega)) ?_ | exact Sub.refl _ | refine sub_snap ?_ rfl)) rfl) ((lentRow (hf37.keep (keep_snap (I := []) (B0 := []) (l1 := []) hVW39 hn (fun g hg => by cases hg) hw (by repeat (first | exact Sub.refl _ | refine sub_snap ?_ rfl)) (Sub.nil _) rfl))).cs) (Nat.le_of_succ_le hp37) ((ha37.keep (keep_snap (I := []) (B0 := []) (l1 := []) hVW39 hn (fun g hg => by cases hg) hw (by repeat (first | exact Sub.refl _ | refine sub_snap ?_ rfl)) (Sub.nil _) rfl)).ok) ((lentRow (hf39.keep (keep_snap (I := []) (B0 := []) (l1 := []) hVW39 hn (fun g hg => by cases hg) hw (by repeat (first | exact Sub.refl _ | refine sub_snap ?_ rfl)) (Sub.nil _) rfl))).cs) (Nat.le_of_succ_le hp39) ((ha39.keep (keep_snap (I := []) (B0 := []) (l1 := []) hVW39 hn (fun g hg => by cases hg) hw (by repeat (first | exact Sub.refl _ | refine sub_snap ?_ rfl)) (Sub.nil _) rfl)).ok) (by omega) (by omega)) (fun i40 W40 hP40 hW40 => ?_)
        obtain ⟨hv40, hr40, hf40, hc40⟩ := hP40
        have kpW40 := (keep_snap (I := []) (B0 := []) (l1 := []) hVW39 hn (fun g hg => by cases hg) hW40 (by repeat (first | exact Sub.refl _ | refine sub_snap ?_ rfl)) (Sub.nil _) rfl)
        have d0 := d0.keep kpW40
        have d1 := d1.keep kpW40
        have d2 := d2.keep kpW40
        have ha37 := ha37.keep kpW40
        have hf37 := hf37.keep kpW40
        have ha39 := ha39.keep kpW40
        have hf39 := hf39.keep kpW40
        have hVW40 := hW40.sub (Sub.nil _)
        obtain ⟨x40, r40⟩ := i40
        dsimp only at hv40 hr40 hf40 hc40
        have e40 : joinZ (x37.map Ch.v) (x39.map Ch.v) = joinZ (xs0.map Ch.v) (xs1.map Ch.v) := by rw [hv37, hv39]
        rw [e40] at hv40
        have ln40 := len_join hv40
        simp only [List.length_map] at ln40
        refine J.as 40 (.tuple #[r40.val x40.length, .int .i64 (joinZ (xs0.map Ch.v) (xs1.map Ch.v)).2]) rfl (by rw [e40]) ?_
        refine J.move rfl rfl ?_
        refine J.extract rfl rfl rfl ?_
        refine J.extract rfl rfl rfl ?_
        refine J.assign rfl rfl ?_
        refine J.assign rfl rfl ?_
        refine J.end ?_
        refine X.then ?_
        refine T.seq ?_
        refine T.text [.l, .l, .l, .l, .l, .l, .l, .l, .l, .l] rfl ?_
        refine J.move rfl rfl ?_
        refine J.callB fok23 rfl rfl _ _ [] (by repeat (first | exact Sub.nil _ | refine Sub.cons (by first | rfl | (rw [dgs_zero]; rfl) | (rw [List.drop_length]; rfl) | (simp; done) | (congr 2; omega) | (congr 3; omega)) ?_ | exact Sub.refl _ | refine sub_snap ?_ rfl)) rfl (fun _ _ => Sub.nil _) (fun w hw => Df.lendTurns w n ([] ++ ids []) _ _ xs1 (Nat.le_trans hn hw.size) (busy_lt (l1 := []) (fun g h => by cases h) hw (by repeat (first | exact Sub.nil _ | refine Sub.cons (by first | rfl | (rw [dgs_zero]; rfl) | (rw [List.drop_length]; rfl) | (simp; done) | (congr 2; omega) | (congr 3; omega)) ?_ | exact Sub.refl _ | refine sub_snap ?_ rfl)) rfl) (hx1.ws hw (off_nil _)) (d1.keep (keep_snap (I := []) (B0 := []) (l1 := []) hVW40 hn (fun g hg => by cases hg) hw (by repeat (first | exact Sub.refl _ | refine sub_snap ?_ rfl)) (Sub.nil _) rfl)) (loadR_small xs1 _ L1) (by omega)) (fun i45 W45 hP45 hW45 => ?_)
        obtain ⟨hv45, ha45, hf45, hp45⟩ := hP45
        have kpW45 := (keep_snap (I := []) (B0 := []) (l1 := []) hVW40 hn (fun g hg => by cases hg) hW45 (by repeat (first | exact Sub.refl _ | refine sub_snap ?_ rfl)) (Sub.nil _) rfl)
        have d0 := d0.keep kpW45
        have d1 := d1.keep kpW45
        have d2 := d2.keep kpW45
        have ha37 := ha37.keep kpW45
        have hf37 := hf37.keep kpW45
        have ha39 := ha39.keep kpW45
        have hf39 := hf39.keep kpW45
        have hf40 := hf40.keep kpW45
        have hc40 := hc40.keep kpW45
        have hVW45 := hW45.sub (Sub.nil _)
        obtain ⟨x45, r45⟩ := i45
        dsimp only at hv45 ha45 hf45 hp45
        have ln45 := len_v hv45
        refine J.move rfl rfl ?_
        refine J.callB fok23 rfl rfl _ _ [] (by repeat (first | exact Sub.nil _ | refine Sub.cons (by first | rfl | (rw [dgs_zero]; rfl) | (rw [List.drop_length]; rfl) | (simp; done) | (congr 2; omega) | (congr 3; omega)) ?_ | exact Sub.refl _ | refine sub_snap ?_ rfl)) rfl (fun _ _ => Sub.nil _) (fun w hw => Df.lendTurns w n ([] ++ ids []) _ _ xs2 (Nat.le_trans hn hw.size) (busy_lt (l1 := []) (fun g h => by cases h) hw (by repeat (first | exact Sub.nil _ | refine Sub.cons (by first | rfl | (rw [dgs_zero]; rfl) | (rw [List.drop_length]; rfl) | (simp; done) | (congr 2; omega) | (congr 3; omega)) ?_ | exact Sub.refl _ | refine sub_snap ?_ rfl)) rfl) (hx2.ws hw (off_nil _)) (d2.keep (keep_snap (I := []) (B0 := []) (l1 := []) hVW45 hn (fun g hg => by cases hg) hw (by repeat (first | exact Sub.refl _ | refine sub_snap ?_ rfl)) (Sub.nil _) rfl)) (loadR_small xs2 _ L2) (by omega)) (fun i47 W47 hP47 hW47 => ?_)
        obtain ⟨hv47, ha47, hf47, hp47⟩ := hP47
        have kpW47 := (keep_snap (I := []) (B0 := []) (l1 := []) hVW45 hn (fun g hg => by cases hg) hW47 (by repeat (first | exact Sub.refl _ | refine sub_snap ?_ rfl)) (Sub.nil _) rfl)
        have d0 := d0.keep kpW47
        have d1 := d1.keep kpW47
        have d2 := d2.keep kpW47
        have ha37 := ha37.keep kpW47
        have hf37 := hf37.keep kpW47
        have ha39 := ha39.keep kpW47
        have hf39 := hf39.keep kpW47
        have hf40 := hf40.keep kpW47
        have hc40 := hc40.keep kpW47
        have ha45 := ha45.keep kpW47
        have hf45 := hf45.keep kpW47
        have hVW47 := hW47.sub (Sub.nil _)
        obtain ⟨x47, r47⟩ := i47
        dsimp only at hv47 ha47 hf47 hp47
        have ln47 := len_v hv47
        refine J.callB fok32 rfl rfl _ _ [] (by repeat (first | exact Sub.nil _ | refine Sub.cons (by first | rfl | (rw [dgs_zero]; rfl) | (rw [List.drop_length]; rfl) | (simp; done) | (congr 2; omega) | (congr 3; omega)) ?_ | exact Sub.refl _ | refine sub_snap ?_ rfl)) rfl (fun _ _ => Sub.nil _) (fun w hw => Dc.Join w n ([] ++ ids []) _ _ _ _ x45 x47 (Nat.le_trans hn hw.size) (busy_lt (l1 := []) (fun g h => by cases h) hw (by repeat (first | exact Sub.nil _ | refine Sub.cons (by first | rfl | (rw [dgs_zero]; rfl) | (rw [List.drop_length]; rfl) | (simp; done) | (congr 2; omega) | (congr 3; omega)) ?_ | exact Sub.refl _ | refine sub_snap ?_ rfl)) rfl) ((lentRow (hf45.keep (keep_snap (I := []) (B0 := []) (l1 := []) hVW47 hn (fun g hg => by cases hg) hw (by repeat (first | exact Sub.refl _ | refine sub_snap ?_ rfl)) (Sub.nil _) rfl))).cs) (Nat.le_of_succ_le hp45) ((ha45.keep (keep_snap (I := []) (B0 := []) (l1 := []) hVW47 hn (fun g hg => by cases hg) hw (by repeat (first | exact Sub.refl _ | refine sub_snap ?_ rfl)) (Sub.nil _) rfl)).ok) ((lentRow (hf47.keep (keep_snap (I := []) (B0 := []) (l1 := []) hVW47 hn (fun g hg => by cases hg) hw (by repeat (first | exact Sub.refl _ | refine sub_snap ?_ rfl)) (Sub.nil _) rfl))).cs) (Nat.le_of_succ_le hp47) ((ha47.keep (keep_snap (I := []) (B0 := []) (l1 := []) hVW47 hn (fun g hg => by cases hg) hw (by repeat (first | exact Sub.refl _ | refine sub_snap ?_ rfl)) (Sub.nil _) rfl)).ok) (by omega) (by omega)) (fun i48 W48 hP48 hW48 => ?_)
        obtain ⟨hv48, hr48, hf48, hc48⟩ := hP48
        have kpW48 := (keep_snap (I := []) (B0 := []) (l1 := []) hVW47 hn (fun g hg => by cases hg) hW48 (by repeat (first | exact Sub.refl _ | refine sub_snap ?_ rfl)) (Sub.nil _) rfl)
        have d0 := d0.keep kpW48
        have d1 := d1.keep kpW48
        have d2 := d2.keep kpW48
        have ha37 := ha37.keep kpW48
        have hf37 := hf37.keep kpW48
        have ha39 := ha39.keep kpW48
        have hf39 := hf39.keep kpW48
        have hf40 := hf40.keep kpW48
        have hc40 := hc40.keep kpW48
        have ha45 := ha45.keep kpW48
        have hf45 := hf45.keep kpW48
        have ha47 := ha47.keep kpW48
        have hf47 := hf47.keep kpW48
        have hVW48 := hW48.sub (Sub.nil _)
        obtain ⟨x48, r48⟩ := i48
        dsimp only at hv48 hr48 hf48 hc48
        have e48 : joinZ (x45.map Ch.v) (x47.map Ch.v) = joinZ (xs1.map Ch.v) (xs2.map Ch.v) := by rw [hv45, hv47]
        rw [e48] at hv48
        have ln48 := len_join hv48
        simp only [List.length_map] at ln48
        refine J.as 48 (.tuple #[r48.val x48.length, .int .i64 (joinZ (xs1.map Ch.v) (xs2.map Ch.v)).2]) rfl (by rw [e48]) ?_
        refine J.move rfl rfl ?_
        refine J.extract rfl rfl rfl ?_
        refine J.extract rfl rfl rfl ?_
        refine J.assign rfl rfl ?_
        refine J.assign rfl rfl ?_
        refine J.end ?_
        refine X.then ?_
        refine T.seq ?_
        refine T.seq ?_
        refine T.text [.l, .l] rfl ?_
        refine J.move rfl rfl ?_
        refine J.eql rfl rfl rfl rfl ?_
        refine J.end ?_
        refine X.then ?_
        refine T.cond_dec rfl (fun h4 => ?_) (fun h4 => ?_)
        · have hz0 := h4
          refine T.seq ?_
          refine T.text [.l, .l, .l, .l] rfl ?_
          refine J.move rfl rfl ?_
          refine J.callB fok23 rfl rfl _ _ [] (by repeat (first | exact Sub.nil _ | refine Sub.cons (by first | rfl | (rw [dgs_zero]; rfl) | (rw [List.drop_length]; rfl) | (simp; done) | (congr 2; omega) | (congr 3; omega)) ?_ | exact Sub.refl _ | refine sub_snap ?_ rfl)) rfl (fun _ _ => Sub.nil _) (fun w hw => Df.lendTurns w n ([] ++ ids []) _ _ x40 (Nat.le_trans hn hw.size) (busy_lt (l1 := []) (fun g h => by cases h) hw (by repeat (first | exact Sub.nil _ | refine Sub.cons (by first | rfl | (rw [dgs_zero]; rfl) | (rw [List.drop_length]; rfl) | (simp; done) | (congr 2; omega) | (congr 3; omega)) ?_ | exact Sub.refl _ | refine sub_snap ?_ rfl)) rfl) ((hf40.keep (keep_snap (I := []) (B0 := []) (l1 := []) hVW48 hn (fun g hg => by cases hg) hw (by repeat (first | exact Sub.refl _ | refine sub_snap ?_ rfl)) (Sub.nil _) rfl)).cs) (hc40.keep (keep_snap (I := []) (B0 := []) (l1 := []) hVW48 hn (fun g hg => by cases hg) hw (by repeat (first | exact Sub.refl _ | refine sub_snap ?_ rfl)) (Sub.nil _) rfl)) (join_small hv40 (loadR_small xs0 _ L0) (loadR_small xs1 _ L1)) (by omega)) (fun i54 W54 hP54 hW54 => ?_)
          obtain ⟨hv54, ha54, hf54, hp54⟩ := hP54
          have kpW54 := (keep_snap (I := []) (B0 := []) (l1 := []) hVW48 hn (fun g hg => by cases hg) hW54 (by repeat (first | exact Sub.refl _ | refine sub_snap ?_ rfl)) (Sub.nil _) rfl)
          have d0 := d0.keep kpW54
          have d1 := d1.keep kpW54
          have d2 := d2.keep kpW54
          have ha37 := ha37.keep kpW54
          have hf37 := hf37.keep kpW54
          have ha39 := ha39.keep kpW54
          have hf39 := hf39.keep kpW54
          have hf40 := hf40.keep kpW54
          have hc40 := hc40.keep kpW54
          have ha45 := ha45.keep kpW54
          have hf45 := hf45.keep kpW54
          have ha47 := ha47.keep kpW54
          have hf47 := hf47.keep kpW54
          have hf48 := hf48.keep kpW54
          have hc48 := hc48.keep kpW54
          have hVW54 := hW54.sub (Sub.nil _)
          obtain ⟨x54, r54⟩ := i54
          dsimp only at hv54 ha54 hf54 hp54
          have ln54 := len_v hv54
          refine J.callB fok28 rfl rfl _ _ [] (by repeat (first | exact Sub.nil _ | refine Sub.cons (by first | rfl | (rw [dgs_zero]; rfl) | (rw [List.drop_length]; rfl) | (simp; done) | (congr 2; omega) | (congr 3; omega)) ?_ | exact Sub.refl _ | refine sub_snap ?_ rfl)) rfl (fun _ _ => Sub.nil _) (fun w hw => Db.Turn w n ([] ++ ids []) _ _ x54 (Nat.le_trans hn hw.size) (busy_lt (l1 := []) (fun g h => by cases h) hw (by repeat (first | exact Sub.nil _ | refine Sub.cons (by first | rfl | (rw [dgs_zero]; rfl) | (rw [List.drop_length]; rfl) | (simp; done) | (congr 2; omega) | (congr 3; omega)) ?_ | exact Sub.refl _ | refine sub_snap ?_ rfl)) rfl) ((lentRow (hf54.keep (keep_snap (I := []) (B0 := []) (l1 := []) hVW54 hn (fun g hg => by cases hg) hw (by repeat (first | exact Sub.refl _ | refine sub_snap ?_ rfl)) (Sub.nil _) rfl))).cs) ((ha54.keep (keep_snap (I := []) (B0 := []) (l1 := []) hVW54 hn (fun g hg => by cases hg) hw (by repeat (first | exact Sub.refl _ | refine sub_snap ?_ rfl)) (Sub.nil _) rfl)).ok) (by omega)) (fun i55 W55 hP55 hW55 => ?_)
          obtain ⟨hv55, hr55, hf55, hc55⟩ := hP55
          have kpW55 := (keep_snap (I := []) (B0 := []) (l1 := []) hVW54 hn (fun g hg => by cases hg) hW55 (by repeat (first | exact Sub.refl _ | refine sub_snap ?_ rfl)) (Sub.nil _) rfl)
          have d0 := d0.keep kpW55
          have d1 := d1.keep kpW55
          have d2 := d2.keep kpW55
          have ha37 := ha37.keep kpW55
          have hf37 := hf37.keep kpW55
          have ha39 := ha39.keep kpW55
          have hf39 := hf39.keep kpW55
          have hf40 := hf40.keep kpW55
          have hc40 := hc40.keep kpW55
          have ha45 := ha45.keep kpW55
          have hf45 := hf45.keep kpW55
          have ha47 := ha47.keep kpW55
          have hf47 := hf47.keep kpW55
          have hf48 := hf48.keep kpW55
          have hc48 := hc48.keep kpW55
          have ha54 := ha54.keep kpW55
          have hf54 := hf54.keep kpW55
          have hVW55 := hW55.sub (Sub.nil _)
          obtain ⟨x55, r55⟩ := i55
          dsimp only at hv55 hr55 hf55 hc55
          have ln55 := len_turn hv55
          refine J.assign rfl rfl ?_
          refine J.end ?_
          refine X.then ?_
          refine T.seq ?_
          refine T.text [.l, .l, .l, .l, .l, .l, .l, .l, .l, .l, .l, .l] rfl ?_
          refine J.move rfl rfl ?_
          refine J.callB fok23 rfl rfl _ _ [] (by repeat (first | exact Sub.nil _ | refine Sub.cons (by first | rfl | (rw [dgs_zero]; rfl) | (rw [List.drop_length]; rfl) | (simp; done) | (congr 2; omega) | (congr 3; omega)) ?_ | exact Sub.refl _ | refine sub_snap ?_ rfl)) rfl (fun _ _ => Sub.nil _) (fun w hw => Df.lendTurns w n ([] ++ ids []) _ _ xs1 (Nat.le_trans hn hw.size) (busy_lt (l1 := []) (fun g h => by cases h) hw (by repeat (first | exact Sub.nil _ | refine Sub.cons (by first | rfl | (rw [dgs_zero]; rfl) | (rw [List.drop_length]; rfl) | (simp; done) | (congr 2; omega) | (congr 3; omega)) ?_ | exact Sub.refl _ | refine sub_snap ?_ rfl)) rfl) (hx1.ws hw (off_nil _)) (d1.keep (keep_snap (I := []) (B0 := []) (l1 := []) hVW55 hn (fun g hg => by cases hg) hw (by repeat (first | exact Sub.refl _ | refine sub_snap ?_ rfl)) (Sub.nil _) rfl)) (loadR_small xs1 _ L1) (by omega)) (fun i58 W58 hP58 hW58 => ?_)
          obtain ⟨hv58, ha58, hf58, hp58⟩ := hP58
          have kpW58 := (keep_snap (I := []) (B0 := []) (l1 := []) hVW55 hn (fun g hg => by cases hg) hW58 (by repeat (first | exact Sub.refl _ | refine sub_snap ?_ rfl)) (Sub.nil _) rfl)
          have d0 := d0.keep kpW58
          have d1 := d1.keep kpW58
          have d2 := d2.keep kpW58
          have ha37 := ha37.keep kpW58
          have hf37 := hf37.keep kpW58
          have ha39 := ha39.keep kpW58
          have hf39 := hf39.keep kpW58
          have hf40 := hf40.keep kpW58
          have hc40 := hc40.keep kpW58
          have ha45 := ha45.keep kpW58
          have hf45 := hf45.keep kpW58
          have ha47 := ha47.keep kpW58
          have hf47 := hf47.keep kpW58
          have hf48 := hf48.keep kpW58
          have hc48 := hc48.keep kpW58
          have ha54 := ha54.keep kpW58
          have hf54 := hf54.keep kpW58
          have hf55 := hf55.keep kpW58
          have hc55 := hc55.keep kpW58
          have hVW58 := hW58.sub (Sub.nil _)
          obtain ⟨x58, r58⟩ := i58
          dsimp only at hv58 ha58 hf58 hp58
          have ln58 := len_v hv58
          refine J.callB fok28 rfl rfl _ _ [] (by repeat (first | exact Sub.nil _ | refine Sub.cons (by first | rfl | (rw [dgs_zero]; rfl) | (rw [List.drop_length]; rfl) | (simp; done) | (congr 2; omega) | (congr 3; omega)) ?_ | exact Sub.refl _ | refine sub_snap ?_ rfl)) rfl (fun _ _ => Sub.nil _) (fun w hw => Db.Turn w n ([] ++ ids []) _ _ x58 (Nat.le_trans hn hw.size) (busy_lt (l1 := []) (fun g h => by cases h) hw (by repeat (first | exact Sub.nil _ | refine Sub.cons (by first | rfl | (rw [dgs_zero]; rfl) | (rw [List.drop_length]; rfl) | (simp; done) | (congr 2; omega) | (congr 3; omega)) ?_ | exact Sub.refl _ | refine sub_snap ?_ rfl)) rfl) ((lentRow (hf58.keep (keep_snap (I := []) (B0 := []) (l1 := []) hVW58 hn (fun g hg => by cases hg) hw (by repeat (first | exact Sub.refl _ | refine sub_snap ?_ rfl)) (Sub.nil _) rfl))).cs) ((ha58.keep (keep_snap (I := []) (B0 := []) (l1 := []) hVW58 hn (fun g hg => by cases hg) hw (by repeat (first | exact Sub.refl _ | refine sub_snap ?_ rfl)) (Sub.nil _) rfl)).ok) (by omega)) (fun i59 W59 hP59 hW59 => ?_)
          obtain ⟨hv59, hr59, hf59, hc59⟩ := hP59
          have kpW59 := (keep_snap (I := []) (B0 := []) (l1 := []) hVW58 hn (fun g hg => by cases hg) hW59 (by repeat (first | exact Sub.refl _ | refine sub_snap ?_ rfl)) (Sub.nil _) rfl)
          have d0 := d0.keep kpW59
          have d1 := d1.keep kpW59
          have d2 := d2.keep kpW59
          have ha37 := ha37.keep kpW59
          have hf37 := hf37.keep kpW59
          have ha39 := ha39.keep kpW59
          have hf39 := hf39.keep kpW59
          have hf40 := hf40.keep kpW59
          have hc40 := hc40.keep kpW59
          have ha45 := ha45.keep kpW59
          have hf45 := hf45.keep kpW59
          have ha47 := ha47.keep kpW59
          have hf47 := hf47.keep kpW59
          have hf48 := hf48.keep kpW59
          have hc48 := hc48.keep kpW59
          have ha54 := ha54.keep kpW59
          have hf54 := hf54.keep kpW59
          have hf55 := hf55.keep kpW59
          have hc55 := hc55.keep kpW59
          have ha58 := ha58.keep kpW59
          have hf58 := hf58.keep kpW59
          have hVW59 := hW59.sub (Sub.nil _)
          obtain ⟨x59, r59⟩ := i59
          dsimp only at hv59 hr59 hf59 hc59
          have ln59 := len_turn hv59
          refine J.move rfl rfl ?_
          refine J.callB fok23 rfl rfl _ _ [] (by repeat (first | exact Sub.nil _ | refine Sub.cons (by first | rfl | (rw [dgs_zero]; rfl) | (rw [List.drop_length]; rfl) | (simp; done) | (congr 2; omega) | (congr 3; omega)) ?_ | exact Sub.refl _ | refine sub_snap ?_ rfl)) rfl (fun _ _ => Sub.nil _) (fun w hw => Df.lendTurns w n ([] ++ ids []) _ _ xs0 (Nat.le_trans hn hw.size) (busy_lt (l1 := []) (fun g h => by cases h) hw (by repeat (first | exact Sub.nil _ | refine Sub.cons (by first | rfl | (rw [dgs_zero]; rfl) | (rw [List.drop_length]; rfl) | (simp; done) | (congr 2; omega) | (congr 3; omega)) ?_ | exact Sub.refl _ | refine sub_snap ?_ rfl)) rfl) (hx0.ws hw (off_nil _)) (d0.keep (keep_snap (I := []) (B0 := []) (l1 := []) hVW59 hn (fun g hg => by cases hg) hw (by repeat (first | exact Sub.refl _ | refine sub_snap ?_ rfl)) (Sub.nil _) rfl)) (loadR_small xs0 _ L0) (by omega)) (fun i61 W61 hP61 hW61 => ?_)
          obtain ⟨hv61, ha61, hf61, hp61⟩ := hP61
          have kpW61 := (keep_snap (I := []) (B0 := []) (l1 := []) hVW59 hn (fun g hg => by cases hg) hW61 (by repeat (first | exact Sub.refl _ | refine sub_snap ?_ rfl)) (Sub.nil _) rfl)
          have d0 := d0.keep kpW61
          have d1 := d1.keep kpW61
          have d2 := d2.keep kpW61
          have ha37 := ha37.keep kpW61
          have hf37 := hf37.keep kpW61
          have ha39 := ha39.keep kpW61
          have hf39 := hf39.keep kpW61
          have hf40 := hf40.keep kpW61
          have hc40 := hc40.keep kpW61
          have ha45 := ha45.keep kpW61
          have hf45 := hf45.keep kpW61
          have ha47 := ha47.keep kpW61
          have hf47 := hf47.keep kpW61
          have hf48 := hf48.keep kpW61
          have hc48 := hc48.keep kpW61
          have ha54 := ha54.keep kpW61
          have hf54 := hf54.keep kpW61
          have hf55 := hf55.keep kpW61
          have hc55 := hc55.keep kpW61
          have ha58 := ha58.keep kpW61
          have hf58 := hf58.keep kpW61
          have hf59 := hf59.keep kpW61
          have hc59 := hc59.keep kpW61
          have hVW61 := hW61.sub (Sub.nil _)
          obtain ⟨x61, r61⟩ := i61
          dsimp only at hv61 ha61 hf61 hp61
          have ln61 := len_v hv61
          refine J.callB fok28 rfl rfl _ _ [] (by repeat (first | exact Sub.nil _ | refine Sub.cons (by first | rfl | (rw [dgs_zero]; rfl) | (rw [List.drop_length]; rfl) | (simp; done) | (congr 2; omega) | (congr 3; omega)) ?_ | exact Sub.refl _ | refine sub_snap ?_ rfl)) rfl (fun _ _ => Sub.nil _) (fun w hw => Db.Turn w n ([] ++ ids []) _ _ x61 (Nat.le_trans hn hw.size) (busy_lt (l1 := []) (fun g h => by cases h) hw (by repeat (first | exact Sub.nil _ | refine Sub.cons (by first | rfl | (rw [dgs_zero]; rfl) | (rw [List.drop_length]; rfl) | (simp; done) | (congr 2; omega) | (congr 3; omega)) ?_ | exact Sub.refl _ | refine sub_snap ?_ rfl)) rfl) ((lentRow (hf61.keep (keep_snap (I := []) (B0 := []) (l1 := []) hVW61 hn (fun g hg => by cases hg) hw (by repeat (first | exact Sub.refl _ | refine sub_snap ?_ rfl)) (Sub.nil _) rfl))).cs) ((ha61.keep (keep_snap (I := []) (B0 := []) (l1 := []) hVW61 hn (fun g hg => by cases hg) hw (by repeat (first | exact Sub.refl _ | refine sub_snap ?_ rfl)) (Sub.nil _) rfl)).ok) (by omega)) (fun i62 W62 hP62 hW62 => ?_)
          obtain ⟨hv62, hr62, hf62, hc62⟩ := hP62
          have kpW62 := (keep_snap (I := []) (B0 := []) (l1 := []) hVW61 hn (fun g hg => by cases hg) hW62 (by repeat (first | exact Sub.refl _ | refine sub_snap ?_ rfl)) (Sub.nil _) rfl)
          have d0 := d0.keep kpW62
          have d1 := d1.keep kpW62
          have d2 := d2.keep kpW62
          have ha37 := ha37.keep kpW62
          have hf37 := hf37.keep kpW62
          have ha39 := ha39.keep kpW62
          have hf39 := hf39.keep kpW62
          have hf40 := hf40.keep kpW62
          have hc40 := hc40.keep kpW62
          have ha45 := ha45.keep kpW62
          have hf45 := hf45.keep kpW62
          have ha47 := ha47.keep kpW62
          have hf47 := hf47.keep kpW62
          have hf48 := hf48.keep kpW62
          have hc48 := hc48.keep kpW62
          have ha54 := ha54.keep kpW62
          have hf54 := hf54.keep kpW62
          have hf55 := hf55.keep kpW62
          have hc55 := hc55.keep kpW62
          have ha58 := ha58.keep kpW62
          have hf58 := hf58.keep kpW62
          have hf59 := hf59.keep kpW62
          have hc59 := hc59.keep kpW62
          have ha61 := ha61.keep kpW62
          have hf61 := hf61.keep kpW62
          have hVW62 := hW62.sub (Sub.nil _)
          obtain ⟨x62, r62⟩ := i62
          dsimp only at hv62 hr62 hf62 hc62
          have ln62 := len_turn hv62
          refine J.callB fok32 rfl rfl _ _ [] (by repeat (first | exact Sub.nil _ | refine Sub.cons (by first | rfl | (rw [dgs_zero]; rfl) | (rw [List.drop_length]; rfl) | (simp; done) | (congr 2; omega) | (congr 3; omega)) ?_ | exact Sub.refl _ | refine sub_snap ?_ rfl)) rfl (fun _ _ => Sub.nil _) (fun w hw => Dc.Join w n ([] ++ ids []) _ _ _ _ x59 x62 (Nat.le_trans hn hw.size) (busy_lt (l1 := []) (fun g h => by cases h) hw (by repeat (first | exact Sub.nil _ | refine Sub.cons (by first | rfl | (rw [dgs_zero]; rfl) | (rw [List.drop_length]; rfl) | (simp; done) | (congr 2; omega) | (congr 3; omega)) ?_ | exact Sub.refl _ | refine sub_snap ?_ rfl)) rfl) ((hf59.keep (keep_snap (I := []) (B0 := []) (l1 := []) hVW62 hn (fun g hg => by cases hg) hw (by repeat (first | exact Sub.refl _ | refine sub_snap ?_ rfl)) (Sub.nil _) rfl)).cs) hr59.le (hc59.keep (keep_snap (I := []) (B0 := []) (l1 := []) hVW62 hn (fun g hg => by cases hg) hw (by repeat (first | exact Sub.refl _ | refine sub_snap ?_ rfl)) (Sub.nil _) rfl)) ((hf62.keep (keep_snap (I := []) (B0 := []) (l1 := []) hVW62 hn (fun g hg => by cases hg) hw (by repeat (first | exact Sub.refl _ | refine sub_snap ?_ rfl)) (Sub.nil _) rfl)).cs) hr62.le (hc62.keep (keep_snap (I := []) (B0 := []) (l1 := []) hVW62 hn (fun g hg => by cases hg) hw (by repeat (first | exact Sub.refl _ | refine sub_snap ?_ rfl)) (Sub.nil _) rfl)) (by omega) (by omega)) (fun i63 W63 hP63 hW63 => ?_)
          obtain ⟨hv63, hr63, hf63, hc63⟩ := hP63
          have kpW63 := (keep_snap (I := []) (B0 := []) (l1 := []) hVW62 hn (fun g hg => by cases hg) hW63 (by repeat (first | exact Sub.refl _ | refine sub_snap ?_ rfl)) (Sub.nil _) rfl)
          have d0 := d0.keep kpW63
          have d1 := d1.keep kpW63
          have d2 := d2.keep kpW63
          have ha37 := ha37.keep kpW63
          have hf37 := hf37.keep kpW63
          have ha39 := ha39.keep kpW63
          have hf39 := hf39.keep kpW63
          have hf40 := hf40.keep kpW63
          have hc40 := hc40.keep kpW63
          have ha45 := ha45.keep kpW63
          have hf45 := hf45.keep kpW63
          have ha47 := ha47.keep kpW63
          have hf47 := hf47.keep kpW63
          have hf48 := hf48.keep kpW63
          have hc48 := hc48.keep kpW63
          have ha54 := ha54.keep kpW63
          have hf54 := hf54.keep kpW63
          have hf55 := hf55.keep kpW63
          have hc55 := hc55.keep kpW63
          have ha58 := ha58.keep kpW63
          have hf58 := hf58.keep kpW63
          have hf59 := hf59.keep kpW63
          have hc59 := hc59.keep kpW63
          have ha61 := ha61.keep kpW63
          have hf61 := hf61.keep kpW63
          have hf62 := hf62.keep kpW63
          have hc62 := hc62.keep kpW63
          have hVW63 := hW63.sub (Sub.nil _)
          obtain ⟨x63, r63⟩ := i63
          dsimp only at hv63 hr63 hf63 hc63
          have e63 : joinZ (x59.map Ch.v) (x62.map Ch.v) = ((joinZ (xs0.map Ch.v) (xs1.map Ch.v)).1.map CV.turn, 0) := by rw [turn_v2 hv59 hv58, turn_v2 hv62 hv61]; exact joinZ_turn (nf_v xs0) (nf_v xs1) hz0
          have ln63 := len_join hv63
          simp only [List.length_map] at ln63
          rw [e63] at hv63
          refine J.as 63 (.tuple #[r63.val x63.length, .int .i64 0]) rfl (by rw [e63]) ?_
          refine J.move rfl rfl ?_
          refine J.extract rfl rfl rfl ?_
          refine J.extract rfl rfl rfl ?_
          refine J.assign rfl rfl ?_
          refine J.assign rfl rfl ?_
          refine J.end ?_
          refine X.then ?_
          refine T.seq ?_
          refine T.text [.l, .l, .l, .l, .l, .l, .l, .l] rfl ?_
          refine J.move rfl rfl ?_
          refine J.neq rfl rfl rfl (decide_eq_false (by first | omega | rfl | assumption | (simp only [*]; done))) ?_
          refine J.move rfl rfl ?_
          refine J.yes rfl rfl ?_
          refine J.move rfl rfl ?_
          refine J.yes rfl rfl ?_
          refine J.move rfl rfl ?_
          refine J.yes rfl rfl ?_
          refine J.call0 (k := .l) trivial fok20 rfl rfl (fun w hw => Df.same w n _ _ _ _ _ x55 x63 ((hf55.keep (keep_snap (I := []) (B0 := []) (l1 := []) hVW63 hn (fun g hg => by cases hg) hw (by repeat (first | exact Sub.refl _ | refine sub_snap ?_ rfl)) (Sub.nil _) rfl)).cs) (hc55.keep (keep_snap (I := []) (B0 := []) (l1 := []) hVW63 hn (fun g hg => by cases hg) hw (by repeat (first | exact Sub.refl _ | refine sub_snap ?_ rfl)) (Sub.nil _) rfl)) ((hf63.keep (keep_snap (I := []) (B0 := []) (l1 := []) hVW63 hn (fun g hg => by cases hg) hw (by repeat (first | exact Sub.refl _ | refine sub_snap ?_ rfl)) (Sub.nil _) rfl)).cs) (hc63.keep (keep_snap (I := []) (B0 := []) (l1 := []) hVW63 hn (fun g hg => by cases hg) hw (by repeat (first | exact Sub.refl _ | refine sub_snap ?_ rfl)) (Sub.nil _) rfl)) (by omega) (by omega)) ?_
          refine J.as 71 (.bool true) rfl (by rw [decide_eq_true ((turn_v2 hv55 (hv54.trans hv40)).trans hv63.symm)]) ?_
          refine J.yes rfl rfl ?_
          refine J.not rfl rfl rfl ?_
          refine J.pick_f rfl rfl rfl ?_
          refine J.end ?_
          refine X.then ?_
          refine T.cond_false rfl ?_
          refine T.skip ?_
          refine X.then ?_
          refine T.seq ?_
          refine T.seq ?_
          refine T.text [.l, .l, .l, .l, .l, .l] rfl ?_
          refine J.move rfl rfl ?_
          refine J.neq rfl rfl rfl (decide_eq_false (fun q => q hz0)) ?_
          refine J.move rfl rfl ?_
          refine J.yes rfl rfl ?_
          refine J.move rfl rfl ?_
          refine J.yes rfl rfl ?_
          refine J.neq rfl rfl rfl rfl ?_
          refine J.pick_f rfl rfl rfl ?_
          refine J.end ?_
          refine X.then ?_
          refine T.cond_dec rfl (fun h5 => ?_) (fun h5 => ?_)
          · skip
            refine T.seq ?_
            refine T.text [.l] rfl ?_
            refine J.assign rfl rfl ?_
            refine J.end ?_
            refine X.then ?_
            refine T.ret ?_
            refine X.then_ret ?_
            exact X.ret1 rfl (RV.tmp rfl) (fun w' hw' => ⟨rfl, hw'.sub (Sub.nil _)⟩)
          · have hz1 := Decidable.not_not.1 h5
            refine T.skip ?_
            refine X.then ?_
            refine T.seq ?_
            refine T.text [.l, .l, .l, .l, .l, .l, .l, .l, .l, .l] rfl ?_
            refine J.move rfl rfl ?_
            refine J.callB fok23 rfl rfl _ _ [] (by repeat (first | exact Sub.nil _ | refine Sub.cons (by first | rfl | (rw [dgs_zero]; rfl) | (rw [List.drop_length]; rfl) | (simp; done) | (congr 2; omega) | (congr 3; omega)) ?_ | exact Sub.refl _ | refine sub_snap ?_ rfl)) rfl (fun _ _ => Sub.nil _) (fun w hw => Df.lendTurns w n ([] ++ ids []) _ _ x40 (Nat.le_trans hn hw.size) (busy_lt (l1 := []) (fun g h => by cases h) hw (by repeat (first | exact Sub.nil _ | refine Sub.cons (by first | rfl | (rw [dgs_zero]; rfl) | (rw [List.drop_length]; rfl) | (simp; done) | (congr 2; omega) | (congr 3; omega)) ?_ | exact Sub.refl _ | refine sub_snap ?_ rfl)) rfl) ((hf40.keep (keep_snap (I := []) (B0 := []) (l1 := []) hVW63 hn (fun g hg => by cases hg) hw (by repeat (first | exact Sub.refl _ | refine sub_snap ?_ rfl)) (Sub.nil _) rfl)).cs) (hc40.keep (keep_snap (I := []) (B0 := []) (l1 := []) hVW63 hn (fun g hg => by cases hg) hw (by repeat (first | exact Sub.refl _ | refine sub_snap ?_ rfl)) (Sub.nil _) rfl)) (join_small hv40 (loadR_small xs0 _ L0) (loadR_small xs1 _ L1)) (by omega)) (fun i85 W85 hP85 hW85 => ?_)
            obtain ⟨hv85, ha85, hf85, hp85⟩ := hP85
            have kpW85 := (keep_snap (I := []) (B0 := []) (l1 := []) hVW63 hn (fun g hg => by cases hg) hW85 (by repeat (first | exact Sub.refl _ | refine sub_snap ?_ rfl)) (Sub.nil _) rfl)
            have d0 := d0.keep kpW85
            have d1 := d1.keep kpW85
            have d2 := d2.keep kpW85
            have ha37 := ha37.keep kpW85
            have hf37 := hf37.keep kpW85
            have ha39 := ha39.keep kpW85
            have hf39 := hf39.keep kpW85
            have hf40 := hf40.keep kpW85
            have hc40 := hc40.keep kpW85
            have ha45 := ha45.keep kpW85
            have hf45 := hf45.keep kpW85
            have ha47 := ha47.keep kpW85
            have hf47 := hf47.keep kpW85
            have hf48 := hf48.keep kpW85
            have hc48 := hc48.keep kpW85
            have ha54 := ha54.keep kpW85
            have hf54 := hf54.keep kpW85
            have hf55 := hf55.keep kpW85
            have hc55 := hc55.keep kpW85
            have ha58 := ha58.keep kpW85
            have hf58 := hf58.keep kpW85
            have hf59 := hf59.keep kpW85
            have hc59 := hc59.keep kpW85
            have ha61 := ha61.keep kpW85
            have hf61 := hf61.keep kpW85
            have hf62 := hf62.keep kpW85
            have hc62 := hc62.keep kpW85
            have hf63 := hf63.keep kpW85
            have hc63 := hc63.keep kpW85
            have hVW85 := hW85.sub (Sub.nil _)
            obtain ⟨x85, r85⟩ := i85
            dsimp only at hv85 ha85 hf85 hp85
            have ln85 := len_v hv85
            refine J.move rfl rfl ?_
            refine J.callB fok23 rfl rfl _ _ [] (by repeat (first | exact Sub.nil _ | refine Sub.cons (by first | rfl | (rw [dgs_zero]; rfl) | (rw [List.drop_length]; rfl) | (simp; done) | (congr 2; omega) | (congr 3; omega)) ?_ | exact Sub.refl _ | refine sub_snap ?_ rfl)) rfl (fun _ _ => Sub.nil _) (fun w hw => Df.lendTurns w n ([] ++ ids []) _ _ xs2 (Nat.le_trans hn hw.size) (busy_lt (l1 := []) (fun g h => by cases h) hw (by repeat (first | exact Sub.nil _ | refine Sub.cons (by first | rfl | (rw [dgs_zero]; rfl) | (rw [List.drop_length]; rfl) | (simp; done) | (congr 2; omega) | (congr 3; omega)) ?_ | exact Sub.refl _ | refine sub_snap ?_ rfl)) rfl) (hx2.ws hw (off_nil _)) (d2.keep (keep_snap (I := []) (B0 := []) (l1 := []) hVW85 hn (fun g hg => by cases hg) hw (by repeat (first | exact Sub.refl _ | refine sub_snap ?_ rfl)) (Sub.nil _) rfl)) (loadR_small xs2 _ L2) (by omega)) (fun i87 W87 hP87 hW87 => ?_)
            obtain ⟨hv87, ha87, hf87, hp87⟩ := hP87
            have kpW87 := (keep_snap (I := []) (B0 := []) (l1 := []) hVW85 hn (fun g hg => by cases hg) hW87 (by repeat (first | exact Sub.refl _ | refine sub_snap ?_ rfl)) (Sub.nil _) rfl)
            have d0 := d0.keep kpW87
            have d1 := d1.keep kpW87
            have d2 := d2.keep kpW87
            have ha37 := ha37.keep kpW87
            have hf37 := hf37.keep kpW87
            have ha39 := ha39.keep kpW87
            have hf39 := hf39.keep kpW87
            have hf40 := hf40.keep kpW87
            have hc40 := hc40.keep kpW87
            have ha45 := ha45.keep kpW87
            have hf45 := hf45.keep kpW87
            have ha47 := ha47.keep kpW87
            have hf47 := hf47.keep kpW87
            have hf48 := hf48.keep kpW87
            have hc48 := hc48.keep kpW87
            have ha54 := ha54.keep kpW87
            have hf54 := hf54.keep kpW87
            have hf55 := hf55.keep kpW87
            have hc55 := hc55.keep kpW87
            have ha58 := ha58.keep kpW87
            have hf58 := hf58.keep kpW87
            have hf59 := hf59.keep kpW87
            have hc59 := hc59.keep kpW87
            have ha61 := ha61.keep kpW87
            have hf61 := hf61.keep kpW87
            have hf62 := hf62.keep kpW87
            have hc62 := hc62.keep kpW87
            have hf63 := hf63.keep kpW87
            have hc63 := hc63.keep kpW87
            have ha85 := ha85.keep kpW87
            have hf85 := hf85.keep kpW87
            have hVW87 := hW87.sub (Sub.nil _)
            obtain ⟨x87, r87⟩ := i87
            dsimp only at hv87 ha87 hf87 hp87
            have ln87 := len_v hv87
            refine J.callB fok32 rfl rfl _ _ [] (by repeat (first | exact Sub.nil _ | refine Sub.cons (by first | rfl | (rw [dgs_zero]; rfl) | (rw [List.drop_length]; rfl) | (simp; done) | (congr 2; omega) | (congr 3; omega)) ?_ | exact Sub.refl _ | refine sub_snap ?_ rfl)) rfl (fun _ _ => Sub.nil _) (fun w hw => Dc.Join w n ([] ++ ids []) _ _ _ _ x85 x87 (Nat.le_trans hn hw.size) (busy_lt (l1 := []) (fun g h => by cases h) hw (by repeat (first | exact Sub.nil _ | refine Sub.cons (by first | rfl | (rw [dgs_zero]; rfl) | (rw [List.drop_length]; rfl) | (simp; done) | (congr 2; omega) | (congr 3; omega)) ?_ | exact Sub.refl _ | refine sub_snap ?_ rfl)) rfl) ((lentRow (hf85.keep (keep_snap (I := []) (B0 := []) (l1 := []) hVW87 hn (fun g hg => by cases hg) hw (by repeat (first | exact Sub.refl _ | refine sub_snap ?_ rfl)) (Sub.nil _) rfl))).cs) (Nat.le_of_succ_le hp85) ((ha85.keep (keep_snap (I := []) (B0 := []) (l1 := []) hVW87 hn (fun g hg => by cases hg) hw (by repeat (first | exact Sub.refl _ | refine sub_snap ?_ rfl)) (Sub.nil _) rfl)).ok) ((lentRow (hf87.keep (keep_snap (I := []) (B0 := []) (l1 := []) hVW87 hn (fun g hg => by cases hg) hw (by repeat (first | exact Sub.refl _ | refine sub_snap ?_ rfl)) (Sub.nil _) rfl))).cs) (Nat.le_of_succ_le hp87) ((ha87.keep (keep_snap (I := []) (B0 := []) (l1 := []) hVW87 hn (fun g hg => by cases hg) hw (by repeat (first | exact Sub.refl _ | refine sub_snap ?_ rfl)) (Sub.nil _) rfl)).ok) (by omega) (by omega)) (fun i88 W88 hP88 hW88 => ?_)
            obtain ⟨hv88, hr88, hf88, hc88⟩ := hP88
            have kpW88 := (keep_snap (I := []) (B0 := []) (l1 := []) hVW87 hn (fun g hg => by cases hg) hW88 (by repeat (first | exact Sub.refl _ | refine sub_snap ?_ rfl)) (Sub.nil _) rfl)
            have d0 := d0.keep kpW88
            have d1 := d1.keep kpW88
            have d2 := d2.keep kpW88
            have ha37 := ha37.keep kpW88
            have hf37 := hf37.keep kpW88
            have ha39 := ha39.keep kpW88
            have hf39 := hf39.keep kpW88
            have hf40 := hf40.keep kpW88
            have hc40 := hc40.keep kpW88
            have ha45 := ha45.keep kpW88
            have hf45 := hf45.keep kpW88
            have ha47 := ha47.keep kpW88
            have hf47 := hf47.keep kpW88
            have hf48 := hf48.keep kpW88
            have hc48 := hc48.keep kpW88
            have ha54 := ha54.keep kpW88
            have hf54 := hf54.keep kpW88
            have hf55 := hf55.keep kpW88
            have hc55 := hc55.keep kpW88
            have ha58 := ha58.keep kpW88
            have hf58 := hf58.keep kpW88
            have hf59 := hf59.keep kpW88
            have hc59 := hc59.keep kpW88
            have ha61 := ha61.keep kpW88
            have hf61 := hf61.keep kpW88
            have hf62 := hf62.keep kpW88
            have hc62 := hc62.keep kpW88
            have hf63 := hf63.keep kpW88
            have hc63 := hc63.keep kpW88
            have ha85 := ha85.keep kpW88
            have hf85 := hf85.keep kpW88
            have ha87 := ha87.keep kpW88
            have hf87 := hf87.keep kpW88
            have hVW88 := hW88.sub (Sub.nil _)
            obtain ⟨x88, r88⟩ := i88
            dsimp only at hv88 hr88 hf88 hc88
            have e88 : joinZ (x85.map Ch.v) (x87.map Ch.v) = joinZ (x40.map Ch.v) (xs2.map Ch.v) := by rw [hv85, hv87]
            rw [e88] at hv88
            have ln88 := len_join hv88
            simp only [List.length_map] at ln88
            refine J.as 88 (.tuple #[r88.val x88.length, .int .i64 (joinZ (x40.map Ch.v) (xs2.map Ch.v)).2]) rfl (by rw [e88]) ?_
            refine J.move rfl rfl ?_
            refine J.extract rfl rfl rfl ?_
            refine J.extract rfl rfl rfl ?_
            refine J.assign rfl rfl ?_
            refine J.assign rfl rfl ?_
            refine J.end ?_
            refine X.then ?_
            refine T.seq ?_
            refine T.text [.l, .l, .l, .l, .l, .l, .l, .l, .l, .l] rfl ?_
            refine J.move rfl rfl ?_
            refine J.callB fok23 rfl rfl _ _ [] (by repeat (first | exact Sub.nil _ | refine Sub.cons (by first | rfl | (rw [dgs_zero]; rfl) | (rw [List.drop_length]; rfl) | (simp; done) | (congr 2; omega) | (congr 3; omega)) ?_ | exact Sub.refl _ | refine sub_snap ?_ rfl)) rfl (fun _ _ => Sub.nil _) (fun w hw => Df.lendTurns w n ([] ++ ids []) _ _ xs0 (Nat.le_trans hn hw.size) (busy_lt (l1 := []) (fun g h => by cases h) hw (by repeat (first | exact Sub.nil _ | refine Sub.cons (by first | rfl | (rw [dgs_zero]; rfl) | (rw [List.drop_length]; rfl) | (simp; done) | (congr 2; omega) | (congr 3; omega)) ?_ | exact Sub.refl _ | refine sub_snap ?_ rfl)) rfl) (hx0.ws hw (off_nil _)) (d0.keep (keep_snap (I := []) (B0 := []) (l1 := []) hVW88 hn (fun g hg => by cases hg) hw (by repeat (first | exact Sub.refl _ | refine sub_snap ?_ rfl)) (Sub.nil _) rfl)) (loadR_small xs0 _ L0) (by omega)) (fun i93 W93 hP93 hW93 => ?_)
            obtain ⟨hv93, ha93, hf93, hp93⟩ := hP93
            have kpW93 := (keep_snap (I := []) (B0 := []) (l1 := []) hVW88 hn (fun g hg => by cases hg) hW93 (by repeat (first | exact Sub.refl _ | refine sub_snap ?_ rfl)) (Sub.nil _) rfl)
            have d0 := d0.keep kpW93
            have d1 := d1.keep kpW93
            have d2 := d2.keep kpW93
            have ha37 := ha37.keep kpW93
            have hf37 := hf37.keep kpW93
            have ha39 := ha39.keep kpW93
            have hf39 := hf39.keep kpW93
            have hf40 := hf40.keep kpW93
            have hc40 := hc40.keep kpW93
            have ha45 := ha45.keep kpW93
            have hf45 := hf45.keep kpW93
            have ha47 := ha47.keep kpW93
            have hf47 := hf47.keep kpW93
            have hf48 := hf48.keep kpW93
            have hc48 := hc48.keep kpW93
            have ha54 := ha54.keep kpW93
            have hf54 := hf54.keep kpW93
            have hf55 := hf55.keep kpW93
            have hc55 := hc55.keep kpW93
            have ha58 := ha58.keep kpW93
            have hf58 := hf58.keep kpW93
            have hf59 := hf59.keep kpW93
            have hc59 := hc59.keep kpW93
            have ha61 := ha61.keep kpW93
            have hf61 := hf61.keep kpW93
            have hf62 := hf62.keep kpW93
            have hc62 := hc62.keep kpW93
            have hf63 := hf63.keep kpW93
            have hc63 := hc63.keep kpW93
            have ha85 := ha85.keep kpW93
            have hf85 := hf85.keep kpW93
            have ha87 := ha87.keep kpW93
            have hf87 := hf87.keep kpW93
            have hf88 := hf88.keep kpW93
            have hc88 := hc88.keep kpW93
            have hVW93 := hW93.sub (Sub.nil _)
            obtain ⟨x93, r93⟩ := i93
            dsimp only at hv93 ha93 hf93 hp93
            have ln93 := len_v hv93
            refine J.move rfl rfl ?_
            refine J.callB fok23 rfl rfl _ _ [] (by repeat (first | exact Sub.nil _ | refine Sub.cons (by first | rfl | (rw [dgs_zero]; rfl) | (rw [List.drop_length]; rfl) | (simp; done) | (congr 2; omega) | (congr 3; omega)) ?_ | exact Sub.refl _ | refine sub_snap ?_ rfl)) rfl (fun _ _ => Sub.nil _) (fun w hw => Df.lendTurns w n ([] ++ ids []) _ _ x48 (Nat.le_trans hn hw.size) (busy_lt (l1 := []) (fun g h => by cases h) hw (by repeat (first | exact Sub.nil _ | refine Sub.cons (by first | rfl | (rw [dgs_zero]; rfl) | (rw [List.drop_length]; rfl) | (simp; done) | (congr 2; omega) | (congr 3; omega)) ?_ | exact Sub.refl _ | refine sub_snap ?_ rfl)) rfl) ((hf48.keep (keep_snap (I := []) (B0 := []) (l1 := []) hVW93 hn (fun g hg => by cases hg) hw (by repeat (first | exact Sub.refl _ | refine sub_snap ?_ rfl)) (Sub.nil _) rfl)).cs) (hc48.keep (keep_snap (I := []) (B0 := []) (l1 := []) hVW93 hn (fun g hg => by cases hg) hw (by repeat (first | exact Sub.refl _ | refine sub_snap ?_ rfl)) (Sub.nil _) rfl)) (join_small hv48 (loadR_small xs1 _ L1) (loadR_small xs2 _ L2)) (by omega)) (fun i95 W95 hP95 hW95 => ?_)
            obtain ⟨hv95, ha95, hf95, hp95⟩ := hP95
            have kpW95 := (keep_snap (I := []) (B0 := []) (l1 := []) hVW93 hn (fun g hg => by cases hg) hW95 (by repeat (first | exact Sub.refl _ | refine sub_snap ?_ rfl)) (Sub.nil _) rfl)
            have d0 := d0.keep kpW95
            have d1 := d1.keep kpW95
            have d2 := d2.keep kpW95
            have ha37 := ha37.keep kpW95
            have hf37 := hf37.keep kpW95
            have ha39 := ha39.keep kpW95
            have hf39 := hf39.keep kpW95
            have hf40 := hf40.keep kpW95
            have hc40 := hc40.keep kpW95
            have ha45 := ha45.keep kpW95
            have hf45 := hf45.keep kpW95
            have ha47 := ha47.keep kpW95
            have hf47 := hf47.keep kpW95
            have hf48 := hf48.keep kpW95
            have hc48 := hc48.keep kpW95
            have ha54 := ha54.keep kpW95
            have hf54 := hf54.keep kpW95
            have hf55 := hf55.keep kpW95
            have hc55 := hc55.keep kpW95
            have ha58 := ha58.keep kpW95
            have hf58 := hf58.keep kpW95
            have hf59 := hf59.keep kpW95
            have hc59 := hc59.keep kpW95
            have ha61 := ha61.keep kpW95
            have hf61 := hf61.keep kpW95
            have hf62 := hf62.keep kpW95
            have hc62 := hc62.keep kpW95
            have hf63 := hf63.keep kpW95
            have hc63 := hc63.keep kpW95
            have ha85 := ha85.keep kpW95
            have hf85 := hf85.keep kpW95
            have ha87 := ha87.keep kpW95
            have hf87 := hf87.keep kpW95
            have hf88 := hf88.keep kpW95
            have hc88 := hc88.keep kpW95
            have ha93 := ha93.keep kpW95
            have hf93 := hf93.keep kpW95
            have hVW95 := hW95.sub (Sub.nil _)
            obtain ⟨x95, r95⟩ := i95
            dsimp only at hv95 ha95 hf95 hp95
            have ln95 := len_v hv95
            refine J.callB fok32 rfl rfl _ _ [] (by repeat (first | exact Sub.nil _ | refine Sub.cons (by first | rfl | (rw [dgs_zero]; rfl) | (rw [List.drop_length]; rfl) | (simp; done) | (congr 2; omega) | (congr 3; omega)) ?_ | exact Sub.refl _ | refine sub_snap ?_ rfl)) rfl (fun _ _ => Sub.nil _) (fun w hw => Dc.Join w n ([] ++ ids []) _ _ _ _ x93 x95 (Nat.le_trans hn hw.size) (busy_lt (l1 := []) (fun g h => by cases h) hw (by repeat (first | exact Sub.nil _ | refine Sub.cons (by first | rfl | (rw [dgs_zero]; rfl) | (rw [List.drop_length]; rfl) | (simp; done) | (congr 2; omega) | (congr 3; omega)) ?_ | exact Sub.refl _ | refine sub_snap ?_ rfl)) rfl) ((lentRow (hf93.keep (keep_snap (I := []) (B0 := []) (l1 := []) hVW95 hn (fun g hg => by cases hg) hw (by repeat (first | exact Sub.refl _ | refine sub_snap ?_ rfl)) (Sub.nil _) rfl))).cs) (Nat.le_of_succ_le hp93) ((ha93.keep (keep_snap (I := []) (B0 := []) (l1 := []) hVW95 hn (fun g hg => by cases hg) hw (by repeat (first | exact Sub.refl _ | refine sub_snap ?_ rfl)) (Sub.nil _) rfl)).ok) ((lentRow (hf95.keep (keep_snap (I := []) (B0 := []) (l1 := []) hVW95 hn (fun g hg => by cases hg) hw (by repeat (first | exact Sub.refl _ | refine sub_snap ?_ rfl)) (Sub.nil _) rfl))).cs) (Nat.le_of_succ_le hp95) ((ha95.keep (keep_snap (I := []) (B0 := []) (l1 := []) hVW95 hn (fun g hg => by cases hg) hw (by repeat (first | exact Sub.refl _ | refine sub_snap ?_ rfl)) (Sub.nil _) rfl)).ok) (by omega) (by omega)) (fun i96 W96 hP96 hW96 => ?_)
            obtain ⟨hv96, hr96, hf96, hc96⟩ := hP96
            have kpW96 := (keep_snap (I := []) (B0 := []) (l1 := []) hVW95 hn (fun g hg => by cases hg) hW96 (by repeat (first | exact Sub.refl _ | refine sub_snap ?_ rfl)) (Sub.nil _) rfl)
            have d0 := d0.keep kpW96
            have d1 := d1.keep kpW96
            have d2 := d2.keep kpW96
            have ha37 := ha37.keep kpW96
            have hf37 := hf37.keep kpW96
            have ha39 := ha39.keep kpW96
            have hf39 := hf39.keep kpW96
            have hf40 := hf40.keep kpW96
            have hc40 := hc40.keep kpW96
            have ha45 := ha45.keep kpW96
            have hf45 := hf45.keep kpW96
            have ha47 := ha47.keep kpW96
            have hf47 := hf47.keep kpW96
            have hf48 := hf48.keep kpW96
            have hc48 := hc48.keep kpW96
            have ha54 := ha54.keep kpW96
            have hf54 := hf54.keep kpW96
            have hf55 := hf55.keep kpW96
            have hc55 := hc55.keep kpW96
            have ha58 := ha58.keep kpW96
            have hf58 := hf58.keep kpW96
            have hf59 := hf59.keep kpW96
            have hc59 := hc59.keep kpW96
            have ha61 := ha61.keep kpW96
            have hf61 := hf61.keep kpW96
            have hf62 := hf62.keep kpW96
            have hc62 := hc62.keep kpW96
            have hf63 := hf63.keep kpW96
            have hc63 := hc63.keep kpW96
            have ha85 := ha85.keep kpW96
            have hf85 := hf85.keep kpW96
            have ha87 := ha87.keep kpW96
            have hf87 := hf87.keep kpW96
            have hf88 := hf88.keep kpW96
            have hc88 := hc88.keep kpW96
            have ha93 := ha93.keep kpW96
            have hf93 := hf93.keep kpW96
            have ha95 := ha95.keep kpW96
            have hf95 := hf95.keep kpW96
            have hVW96 := hW96.sub (Sub.nil _)
            obtain ⟨x96, r96⟩ := i96
            dsimp only at hv96 hr96 hf96 hc96
            have e96 : joinZ (x93.map Ch.v) (x95.map Ch.v) = joinZ (xs0.map Ch.v) (x48.map Ch.v) := by rw [hv93, hv95]
            rw [e96] at hv96
            have ln96 := len_join hv96
            simp only [List.length_map] at ln96
            refine J.as 96 (.tuple #[r96.val x96.length, .int .i64 (joinZ (xs0.map Ch.v) (x48.map Ch.v)).2]) rfl (by rw [e96]) ?_
            refine J.move rfl rfl ?_
            refine J.extract rfl rfl rfl ?_
            refine J.extract rfl rfl rfl ?_
            refine J.assign rfl rfl ?_
            refine J.assign rfl rfl ?_
            refine J.end ?_
            refine X.then ?_
            refine T.seq ?_
            refine T.text [.l, .l, .l, .l, .l, .l, .l, .l, .l, .l, .l, .l] rfl ?_
            refine J.move rfl rfl ?_
            refine J.neq rfl rfl rfl rfl ?_
            refine J.move rfl rfl ?_
            refine J.split 101 rfl (fun h6 => ?_) (fun h6 => ?_)
            · skip
              refine J.no rfl rfl rfl rfl ?_
              refine J.no rfl rfl rfl rfl ?_
              refine J.pick_t rfl rfl rfl ?_
              refine J.move rfl rfl ?_
              refine J.no rfl rfl rfl rfl ?_
              refine J.no rfl rfl rfl rfl ?_
              refine J.no rfl rfl rfl rfl ?_
              refine J.pick_t rfl rfl rfl ?_
              refine J.assign rfl rfl ?_
              refine J.end ?_
              refine X.then ?_
              refine T.ret ?_
              exact X.ret1 rfl (RV.tmp rfl) (fun w' hw' => ⟨rfl, hw'.sub (Sub.nil _)⟩)
            · have hgp := Decidable.not_not.1 h6
              refine J.yes rfl rfl ?_
              refine J.move rfl rfl ?_
              refine J.yes rfl rfl ?_
              refine J.neq rfl rfl rfl rfl ?_
              refine J.pick_f rfl rfl rfl ?_
              refine J.move rfl rfl ?_
              refine J.split 105 rfl (fun h7 => ?_) (fun h7 => ?_)
              · skip
                refine J.no rfl rfl rfl rfl ?_
                refine J.no rfl rfl rfl rfl ?_
                refine J.no rfl rfl rfl rfl ?_
                refine J.pick_t rfl rfl rfl ?_
                refine J.assign rfl rfl ?_
                refine J.end ?_
                refine X.then ?_
                refine T.ret ?_
                exact X.ret1 rfl (RV.tmp rfl) (fun w' hw' => ⟨rfl, hw'.sub (Sub.nil _)⟩)
              · have hgq := Decidable.not_not.1 h7
                refine J.yes rfl rfl ?_
                refine J.move rfl rfl ?_
                refine J.yes rfl rfl ?_
                refine J.move rfl rfl ?_
                refine J.yes rfl rfl ?_
                refine J.call0 (k := .l) trivial fok20 rfl rfl (fun w hw => Df.same w n _ _ _ _ _ x88 x96 ((hf88.keep (keep_snap (I := []) (B0 := []) (l1 := []) hVW96 hn (fun g hg => by cases hg) hw (by repeat (first | exact Sub.refl _ | refine sub_snap ?_ rfl)) (Sub.nil _) rfl)).cs) (hc88.keep (keep_snap (I := []) (B0 := []) (l1 := []) hVW96 hn (fun g hg => by cases hg) hw (by repeat (first | exact Sub.refl _ | refine sub_snap ?_ rfl)) (Sub.nil _) rfl)) ((hf96.keep (keep_snap (I := []) (B0 := []) (l1 := []) hVW96 hn (fun g hg => by cases hg) hw (by repeat (first | exact Sub.refl _ | refine sub_snap ?_ rfl)) (Sub.nil _) rfl)).cs) (hc96.keep (keep_snap (I := []) (B0 := []) (l1 := []) hVW96 hn (fun g hg => by cases hg) hw (by repeat (first | exact Sub.refl _ | refine sub_snap ?_ rfl)) (Sub.nil _) rfl)) (by omega) (by omega)) ?_
                refine J.as 108 (.bool true) rfl (by rw [decide_eq_true (hv88.trans ((groups hv40 hv48 hz0 hz1 hgp hgq).trans hv96.symm))]) ?_
                refine J.pick_f rfl rfl rfl ?_
                refine J.assign rfl rfl ?_
                refine J.end ?_
                refine X.then ?_
                refine T.ret ?_
                exact X.ret1 rfl (RV.tmp rfl) (fun w' hw' => ⟨rfl, hw'.sub (Sub.nil _)⟩)
        · have hz0n := h4
          refine T.seq ?_
          refine T.text [.l, .l, .l] rfl ?_
          refine J.move rfl rfl ?_
          refine J.lenSl Tryz.underlying25 rfl rfl ?_
          refine J.neq rfl rfl rfl (decide_eq_false (fun q => q (by rw [none_ch (hv40.trans (joinZ_none hz0n))]; rfl))) ?_
          refine J.end ?_
          refine X.then ?_
          refine T.cond_false rfl ?_
          refine T.skip ?_
          refine X.then ?_
          refine T.seq ?_
          refine T.seq ?_
          refine T.text [.l, .l, .l, .l, .l, .l] rfl ?_
          refine J.move rfl rfl ?_
          refine J.neq rfl rfl rfl (decide_eq_true hz0n) ?_
          refine J.move rfl rfl ?_
          refine J.no rfl rfl rfl rfl ?_
          refine J.no rfl rfl rfl rfl ?_
          refine J.pick_t rfl rfl rfl ?_
          refine J.end ?_
          refine X.then ?_
          refine T.cond_true rfl ?_
          refine T.seq ?_
          refine T.text [.l] rfl ?_
          refine J.assign rfl rfl ?_
          refine J.end ?_
          refine X.then ?_
          refine T.ret ?_
          refine X.then_ret ?_
          exact X.ret1 rfl (RV.tmp rfl) (fun w' hw' => ⟨rfl, hw'.sub (Sub.nil _)⟩)
end Go.Proofs.YtlllcafedekojaaGreatDoor.Ed
namespace Go.Proofs.YtlllcafedekojaaGreatDoor.Ow
open Go Go.ChangeShapes Go.WideShapes Go.ChangeAt Go.RowKit
theorem own : ownKnob Tryz.prog.godebug = none := by kernel_rfl
theorem laidOut : laidOutB Tryz.prog = true := by kernel_rfl
abbrev laidL := Rows.diffTurnsRow.laid
set_option maxRecDepth 100000 in
theorem door_met (os : Os) (args : Array Value) : laidMetH Tryz.prog laidL ((World.doorLaid Tryz.prog 400 os).forCall (fun _ _ => 0) ⟨#[], args, []⟩).memory :=
  laidMetH_of_parts3 (fuel := 8) (laidMet_of_run' 8 (by kernel_rfl) (by kernel_rfl)) (by kernel_rfl) (by kernel_rfl)
end Go.Proofs.YtlllcafedekojaaGreatDoor.Ow
