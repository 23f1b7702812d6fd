/-
  Walks, printed by gen.py: what each function hands back, said of numbers.
  Conditions: those that each theorem bears.
-/
import Derived.Test.YtegociefcfcihaaGreatDoorChecked
import Derived.Test.YtegociefcfcihaaGreatDoorFn
import Derived.Test.YtegociefcfcihaaGreatDoorFs
import Derived.Test.YtegociefcfcihaaGreatDoorPy
import Derived.Test.YtegociefcfcihaaGreatDoorRa
import Derived.Test.YtegociefcfcihaaGreatDoorRc
import Derived.Test.YtegociefcfcihaaGreatDoorRe
import Derived.Test.YtegociefcfcihaaGreatDoorRf
set_option linter.unusedVariables false
set_option maxRecDepth 20000
namespace Go.Proofs.YtegociefcfcihaaGreatDoor.Rh
open Go Go.Fw

theorem zero256 : ZeroT Tryz.prog 60 (.agg (rowN .i64 (List.replicate 256 0)).toArray) := (by unfold ZeroT; kernel_rfl)
theorem sz60 : SizeT Tryz.prog 60 256 := (by unfold SizeT; kernel_rfl)
theorem zero24 : ZeroT Tryz.prog 24 (.agg ([.int .u64 0, .int .u64 0, .int .u64 0, .int .u64 0]).toArray) := (by unfold ZeroT; kernel_rfl)
theorem agg24 : AggT Tryz.prog 24 4 := ⟨⟨_, Tryz.underlying24, rfl⟩, by kernel_rfl⟩
theorem fok58 : FnOk Tryz.prog 58 := FnOk.mk' Tryz.func58 (by kernel_rfl) rfl
theorem fok67 : FnOk Tryz.prog 67 := FnOk.mk' Tryz.func67 (by kernel_rfl) rfl
theorem fok59 : FnOk Tryz.prog 59 := FnOk.mk' Tryz.func59 (by kernel_rfl) rfl
theorem fok68 : FnOk Tryz.prog 68 := FnOk.mk' Tryz.func68 (by kernel_rfl) rfl
theorem fok69 : FnOk Tryz.prog 69 := FnOk.mk' Tryz.func69 (by kernel_rfl) rfl
theorem fok56 : FnOk Tryz.prog 56 := FnOk.mk' Tryz.func56 (by kernel_rfl) rfl
theorem sz24 : SizeT Tryz.prog 24 4 := (by unfold SizeT; kernel_rfl)

theorem Exp (w : World) (x0 : Nat) (x1 : Nat) :
    Calls Tryz.prog 18 [W x0, W x1].toArray w fun e w' => e = .returned (W (powN x0 x1)) ∧ WS w [] [] w' := by
  refine calls_of_T [] 32 [] Tryz.func18 rfl Tryz.ntmps18 (by simp) (WS.refl _ _) ?_
  refine T.seq ?_
  refine T.text [.l, .l, .l] rfl ?_
  refine J.box 2 rfl rfl (wc x0) rfl rfl (fun g2 hg2 => ?_)
  refine J.box 3 rfl rfl (wc x1) rfl rfl (fun g3 hg3 => ?_)
  refine J.alloc 4 rfl zero24 [.int .u64 0, .int .u64 0, .int .u64 0, .int .u64 0] rfl rfl (fun g4 hg4 => ?_)
  refine J.end ?_
  refine X.then ?_
  refine T.seq ?_
  refine T.text [.l, .l, .l] rfl ?_
  refine J.loadN (k := .l) trivial 3 rfl rfl agg24 (wc x1) rfl rfl rfl ?_
  refine J.callRow 10 rfl (t := 3) (kd := .i64) fok58 rfl rfl (fun w hw => Ra.of w _) (fun zs10 r10 hz10 hr10 => ?_)
  obtain ⟨hD10, hL10, hV10, hG10⟩ := of_facts hz10
  refine J.assign rfl rfl ?_
  refine J.end ?_
  refine X.then ?_
  refine T.seq ?_
  refine T.text [.l, .l] rfl ?_
  refine J.callRow 11 rfl (t := 3) (kd := .i64) fok67 rfl rfl (fun w hw => Rc.small w 1 (by omega)) (fun zs11 r11 hz11 hr11 => ?_)
  obtain ⟨hD11, hL11, hV11⟩ := hz11
  refine J.assign rfl rfl ?_
  refine J.end ?_
  refine X.then ?_
  refine T.seq ?_
  refine T.text [.l, .l, .l] rfl ?_
  refine J.loadN (k := .l) trivial 2 rfl rfl agg24 (wc x0) rfl rfl rfl ?_
  refine J.callRow 13 rfl (t := 3) (kd := .i64) fok58 rfl rfl (fun w hw => Ra.of w _) (fun zs13 r13 hz13 hr13 => ?_)
  obtain ⟨hD13, hL13, hV13, hG13⟩ := of_facts hz13
  refine J.assign rfl rfl ?_
  refine J.end ?_
  refine X.then ?_
  refine T.seq ?_
  refine T.seq ?_
  refine T.text [.l] rfl ?_
  refine J.assign rfl rfl ?_
  refine J.end ?_
  refine X.mv 11 6 rfl ?_
  refine X.then ?_
  refine T.block ?_
  refine T.loop (ι := Nat × List Nat × RowIx) (fun ((u, rs, r) : Nat × List Nat × RowIx) => u ≤ 256 ∧ Dg rs ∧ rs.length ≤ 32 ∧ vl rs = x0 ^ (x1 % 2 ^ 256 / 2 ^ u) % 2 ^ 256 ∧ r.Ok 1 rs.length) (fun ((u, rs, r) : Nat × List Nat × RowIx) => [(0, W x0), (1, W x1), (2, .pointer (some ⟨g2, 0, none⟩)), (3, .pointer (some ⟨g3, 0, none⟩)), (4, .pointer (some ⟨g4, 0, none⟩)), (9, W x1), (10, r10.val zs10.length), (5, r10.val zs10.length), (11, r11.val zs11.length), (12, W x0), (13, r13.val zs13.length), (7, r13.val zs13.length), (8, .int .i64 ((u : Int) - 1)), (6, r.val rs.length)]) (fun ((u, rs, r) : Nat × List Nat × RowIx) => [(2, ⟨some g2, 24, (wc x0)⟩), (3, ⟨some g3, 24, (wc x1)⟩), (4, ⟨some g4, 24, [.int .u64 0, .int .u64 0, .int .u64 0, .int .u64 0]⟩), (10, r10.ent 3 (rowN .i64 zs10)), (13, r13.ent 3 (rowN .i64 zs13)), (6, r.ent 3 (rowN .i64 rs))]) (fun ((u, rs, r) : Nat × List Nat × RowIx) => u) ⟨256, zs11, r11⟩ ⟨Nat.le_refl _, hD11, by omega, by rw [hV11, Nat.div_eq_of_lt (Nat.mod_lt _ (by omega)), Nat.pow_zero], hr11⟩ (by repeat (first | exact Sub.nil _ | refine Sub.cons (by first | rfl | (rw [dgs_zero]; rfl) | (rw [List.drop_length]; rfl) | (simp; done) | (congr 2; omega) | (congr 3; omega)) ?_)) (by repeat (first | exact Sub.nil _ | refine Sub.cons (by first | rfl | (rw [dgs_zero]; rfl) | (rw [List.drop_length]; rfl) | (simp; done) | (congr 2; omega) | (congr 3; omega)) ?_)) ?_
  rintro ⟨u, rs, r⟩ ⟨hu, hrd, hrl, hrv, hr⟩
  try dsimp only at *
  refine T.seq ?_
  refine T.seq ?_
  refine T.text [.l, .l] rfl ?_
  refine J.move rfl rfl ?_
  refine J.geq rfl rfl rfl rfl ?_
  refine J.end ?_
  refine X.then ?_
  refine T.cond_dec rfl (fun h1 => ?_) (fun h1 => ?_)
  · obtain ⟨k, rfl⟩ : ∃ k, u = k + 1 := ⟨u - 1, by omega⟩
    refine T.as 8 (.int .i64 (k : Int)) rfl (by first | rfl | (congr 1; omega)) ?_
    refine T.skip ?_
    refine X.then ?_
    refine T.seq ?_
    refine T.block ?_
    refine T.seq ?_
    refine T.text [.l, .l, .l, .l, .l] rfl ?_
    refine J.move rfl rfl ?_
    refine J.move rfl rfl ?_
    refine J.callRow 20 rfl (t := 3) (kd := .i64) fok59 rfl rfl (fun w hw => Rc.times w _ _ _ (hw.rowCs (k := 6) rfl) _ _ _ (hw.rowCs (k := 6) rfl) (by assumption) (by omega) (by assumption) (by omega)) (fun zs20 r20 hz20 hr20 => ?_)
    obtain ⟨hD20, hL20, hV20⟩ := hz20
    refine J.callRow 21 rfl (t := 3) (kd := .i64) fok68 rfl rfl (fun w hw => Ra.cut w _ _ _ (hw.rowCs (k := 20) rfl) _ (by omega)) (fun zs21 r21 hz21 hr21 => ?_)
    obtain ⟨hD21, hL21, hV21⟩ := cut_mod hz21 hD20
    refine J.assign rfl rfl ?_
    refine J.end ?_
    refine X.then ?_
    refine T.seq ?_
    refine T.text [.l, .l, .l, .l] rfl ?_
    refine J.move rfl rfl ?_
    refine J.move rfl rfl ?_
    refine J.call0 (k := .l) trivial fok69 rfl rfl (fun w hw => Re.bit w _ _ _ _ (hw.rowCs (k := 10) rfl) (by assumption) (by omega) (by omega)) ?_
    refine J.eql rfl rfl rfl rfl ?_
    refine J.end ?_
    refine X.then ?_
    refine T.cond_dec rfl (fun h2 => ?_) (fun h2 => ?_)
    · have hpw := pow_bit1 x0 (x1 % 2 ^ 256) k (by rw [← hV10]; omega)
      refine T.text [.l, .l, .l, .l, .l] rfl ?_
      refine J.move rfl rfl ?_
      refine J.move rfl rfl ?_
      refine J.callRow 28 rfl (t := 3) (kd := .i64) fok59 rfl rfl (fun w hw => Rc.times w _ _ _ (hw.rowCs (k := 21) rfl) _ _ _ (hw.rowCs (k := 13) rfl) (by assumption) (by omega) (by assumption) (by omega)) (fun zs28 r28 hz28 hr28 => ?_)
      obtain ⟨hD28, hL28, hV28⟩ := hz28
      refine J.callRow 29 rfl (t := 3) (kd := .i64) fok68 rfl rfl (fun w hw => Ra.cut w _ _ _ (hw.rowCs (k := 28) rfl) _ (by omega)) (fun zs29 r29 hz29 hr29 => ?_)
      obtain ⟨hD29, hL29, hV29⟩ := cut_mod hz29 hD28
      refine J.assign rfl rfl ?_
      refine J.end ?_
      refine X.inBlock (X.then ?_)
      refine T.text [.l, .l, .l] rfl ?_
      refine J.move rfl rfl ?_
      refine J.sub' rfl rfl rfl (by exact i64_ok _ (by omega)) ?_
      refine J.assign rfl rfl ?_
      refine J.end ?_
      refine X.mv 29 6 rfl ?_
      exact X.round ⟨k, zs29, r29⟩ ⟨by omega, hD29, hL29, by rw [hV29, hV28, hV21, hV20, hrv, hV13, hpw], hr29⟩ (by first | omega | (dsimp only; omega)) (by repeat (first | exact Sub.nil _ | refine Sub.cons (by first | rfl | (rw [dgs_zero]; rfl) | (rw [List.drop_length]; rfl) | (simp; done) | (congr 2; omega) | (congr 3; omega)) ?_)) (by repeat (first | exact Sub.nil _ | refine Sub.cons (by first | rfl | (rw [dgs_zero]; rfl) | (rw [List.drop_length]; rfl) | (simp; done) | (congr 2; omega) | (congr 3; omega)) ?_))
    · have hpw := pow_bit0 x0 (x1 % 2 ^ 256) k (by rw [← hV10]; omega)
      refine T.skip ?_
      refine X.inBlock (X.then ?_)
      refine T.text [.l, .l, .l] rfl ?_
      refine J.move rfl rfl ?_
      refine J.sub' rfl rfl rfl (by exact i64_ok _ (by omega)) ?_
      refine J.assign rfl rfl ?_
      refine J.end ?_
      refine X.mv 21 6 rfl ?_
      exact X.round ⟨k, zs21, r21⟩ ⟨by omega, hD21, hL21, by rw [hV21, hV20, hrv, hpw], hr21⟩ (by first | omega | (dsimp only; omega)) (by repeat (first | exact Sub.nil _ | refine Sub.cons (by first | rfl | (rw [dgs_zero]; rfl) | (rw [List.drop_length]; rfl) | (simp; done) | (congr 2; omega) | (congr 3; omega)) ?_)) (by repeat (first | exact Sub.nil _ | refine Sub.cons (by first | rfl | (rw [dgs_zero]; rfl) | (rw [List.drop_length]; rfl) | (simp; done) | (congr 2; omega) | (congr 3; omega)) ?_))
  · obtain rfl : u = 0 := by omega
    refine T.exit ?_
    refine X.then_exit (X.then_exit (X.inBlock_eq (X.then ?_)))
    refine T.seq ?_
    refine T.text [.l, .l, .l] rfl ?_
    refine J.move rfl rfl ?_
    refine J.call0 (k := .l) trivial fok56 rfl rfl (fun w hw => Ra.word w _ _ _ (hw.rowCs (k := 6) rfl) (by assumption) (by omega)) ?_
    refine J.store 4 rfl rfl rfl rfl _ rfl sz24 (by first | decide | exact Nat.le_refl _ | exact Nat.le_of_ble_eq_true rfl | (simp [rowN]; done) | (simp [rowN]; omega)) (by first | exact rowN_one _ _ | (simp; done) | (intro u hu; simp at hu; subst hu; rfl) | (intro u hu; simp at hu; rcases hu with rfl | rfl <;> rfl)) (by first | decide | exact Nat.zero_lt_succ _ | simp) trivial _ rfl ?_
    refine J.end ?_
    refine X.then ?_
    refine T.ret ?_
    exact X.ret1 rfl (RV.agg 4 rfl rfl agg24 _ (by rfl) (by rfl) rfl) (fun w' hw' => ⟨retW (by rw [hrv, Nat.pow_zero, Nat.div_one]; unfold powN; rw [Nat.mod_mod]), hw'.sub (Sub.nil _)⟩)
end Go.Proofs.YtegociefcfcihaaGreatDoor.Rh
