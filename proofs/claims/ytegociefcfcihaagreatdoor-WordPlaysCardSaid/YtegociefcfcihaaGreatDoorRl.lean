/-
  Walks, printed by gen.py: what each function hands back, said of numbers.
  Conditions: those that each theorem bears.
-/
import Derived.Test.YtegociefcfcihaaGreatDoorChecked
import Derived.Test.YtegociefcfcihaaGreatDoorFn
import Derived.Test.YtegociefcfcihaaGreatDoorFs
import Derived.Test.YtegociefcfcihaaGreatDoorPz
import Derived.Test.YtegociefcfcihaaGreatDoorRa
import Derived.Test.YtegociefcfcihaaGreatDoorRc
import Derived.Test.YtegociefcfcihaaGreatDoorRe
import Derived.Test.YtegociefcfcihaaGreatDoorRk
set_option linter.unusedVariables false
set_option maxRecDepth 20000
namespace Go.Proofs.YtegociefcfcihaaGreatDoor.Rl
open Go Go.Fw

theorem zero256 : ZeroT Tryz.prog 60 (.agg (rowN .i64 (List.replicate 256 0)).toArray) := (by unfold ZeroT; kernel_rfl)
theorem sz60 : SizeT Tryz.prog 60 256 := (by unfold SizeT; kernel_rfl)
theorem zero24 : ZeroT Tryz.prog 24 (.agg ([.int .u64 0, .int .u64 0, .int .u64 0, .int .u64 0]).toArray) := (by unfold ZeroT; kernel_rfl)
theorem agg24 : AggT Tryz.prog 24 4 := ⟨⟨_, Tryz.underlying24, rfl⟩, by kernel_rfl⟩
theorem fok71 : FnOk Tryz.prog 71 := FnOk.mk' Tryz.func71 (by kernel_rfl) rfl
theorem sz3 : SizeT Tryz.prog 3 1 := (by unfold SizeT; kernel_rfl)
theorem arr60 : ArrT Tryz.prog 60 256 3 1 := ⟨Tryz.underlying60, sz3⟩
theorem one3 : OneT Tryz.prog 3 := ⟨⟨_, Tryz.underlying3, rfl⟩, by kernel_rfl⟩
theorem agg60 : AggT Tryz.prog 60 256 := ⟨⟨_, Tryz.underlying60, rfl⟩, by kernel_rfl⟩
theorem fok72 : FnOk Tryz.prog 72 := FnOk.mk' Tryz.func72 (by kernel_rfl) rfl
theorem sz24 : SizeT Tryz.prog 24 4 := (by unfold SizeT; kernel_rfl)
theorem fok70 : FnOk Tryz.prog 70 := FnOk.mk' Tryz.func70 (by kernel_rfl) rfl

theorem And (w : World) (x0 : Nat) (x1 : Nat) :
    Calls Tryz.prog 80 [W x0, W x1].toArray w fun e w' => e = .returned (W (x0 &&& x1)) ∧ WS w [] [] w' := by
  refine calls_of_T [] 27 [] Tryz.func80 rfl Tryz.ntmps80 (by simp) (WS.refl _ _) ?_
  refine T.seq ?_
  refine T.text [.l, .l, .l] rfl ?_
  refine J.box 2 rfl rfl (wc x0) rfl rfl (fun g2 hg2 => ?_)
  refine J.box 3 rfl rfl (wc x1) rfl rfl (fun g3 hg3 => ?_)
  refine J.alloc 4 rfl zero24 [.int .u64 0, .int .u64 0, .int .u64 0, .int .u64 0] rfl rfl (fun g4 hg4 => ?_)
  refine J.end ?_
  refine X.then ?_
  refine T.seq ?_
  refine T.text [.l, .l, .l, .l] rfl ?_
  refine J.loadN (k := .l) trivial 2 rfl rfl agg24 (wc x0) rfl rfl rfl ?_
  refine J.call0 (k := .l) trivial fok71 rfl rfl (fun w hw => Rk.bits w _) ?_
  refine J.alloc 5 rfl zero256 (rowN .i64 (List.replicate 256 0)) rfl rfl (fun g5 hg5 => ?_)
  refine J.store 5 rfl rfl rfl rfl (rowN .i64 (bitsL x0 256)) rfl (by rw [rowN_length, bitsL_length]; exact sz60) (by rw [rowN_length, bitsL_length]; exact Nat.le_refl _) (by first | exact rowN_one _ _ | (simp; done) | (intro u hu; simp at hu; subst hu; rfl) | (intro u hu; simp at hu; rcases hu with rfl | rfl <;> rfl)) (by rw [rowN_length, bitsL_length]; decide) trivial (rowN .i64 (bitsL x0 256)) (put_whole _ _ (by rw [rowN_length, rowN_length, List.length_replicate, bitsL_length])) ?_
  refine J.end ?_
  refine X.then ?_
  refine T.seq ?_
  refine T.text [.l, .l, .l, .l] rfl ?_
  refine J.loadN (k := .l) trivial 3 rfl rfl agg24 (wc x1) rfl rfl rfl ?_
  refine J.call0 (k := .l) trivial fok71 rfl rfl (fun w hw => Rk.bits w _) ?_
  refine J.alloc 6 rfl zero256 (rowN .i64 (List.replicate 256 0)) rfl rfl (fun g6 hg6 => ?_)
  refine J.store 6 rfl rfl rfl rfl (rowN .i64 (bitsL x1 256)) rfl (by rw [rowN_length, bitsL_length]; exact sz60) (by rw [rowN_length, bitsL_length]; exact Nat.le_refl _) (by first | exact rowN_one _ _ | (simp; done) | (intro u hu; simp at hu; subst hu; rfl) | (intro u hu; simp at hu; rcases hu with rfl | rfl <;> rfl)) (by rw [rowN_length, bitsL_length]; decide) trivial (rowN .i64 (bitsL x1 256)) (put_whole _ _ (by rw [rowN_length, rowN_length, List.length_replicate, bitsL_length])) ?_
  refine J.end ?_
  refine X.then ?_
  refine T.seq ?_
  refine T.seq ?_
  refine T.text [.l] rfl ?_
  refine J.assign rfl rfl ?_
  refine J.end ?_
  refine X.then ?_
  refine T.block ?_
  refine T.loop (ι := Nat × List Nat) (fun ((i, ys) : Nat × List Nat) => i ≤ 256 ∧ ys.length = 256 ∧ (∀ q, q < i → ys.getD q 0 = x0 / 2 ^ q % 2 * (x1 / 2 ^ q % 2)) ∧ ∀ q, i ≤ q → q < 256 → ys.getD q 0 = x0 / 2 ^ q % 2) (fun ((i, ys) : Nat × List Nat) => [(0, W x0), (1, W x1), (2, .pointer (some ⟨g2, 0, none⟩)), (3, .pointer (some ⟨g3, 0, none⟩)), (4, .pointer (some ⟨g4, 0, none⟩)), (5, .pointer (some ⟨g5, 0, none⟩)), (6, .pointer (some ⟨g6, 0, none⟩)), (7, .int .i64 (i : Int))]) (fun ((i, ys) : Nat × List Nat) => [(2, ⟨some g2, 24, (wc x0)⟩), (3, ⟨some g3, 24, (wc x1)⟩), (4, ⟨some g4, 24, [.int .u64 0, .int .u64 0, .int .u64 0, .int .u64 0]⟩), (6, ⟨some g6, 60, (rowN .i64 (bitsL x1 256))⟩), (5, ⟨some g5, 60, rowN .i64 ys⟩)]) (fun ((i, ys) : Nat × List Nat) => 256 - i) ⟨0, (bitsL x0 256)⟩ ⟨Nat.zero_le _, bitsL_length _ _, fun q hq => by omega, fun q _ hq => bitsL_get _ _ _ hq⟩ (by repeat (first | exact Sub.nil _ | refine Sub.cons (by first | rfl | (rw [dgs_zero]; rfl) | (rw [List.drop_length]; rfl) | (simp; done) | (congr 2; omega) | (congr 3; omega)) ?_)) (by repeat (first | exact Sub.nil _ | refine Sub.cons (by first | rfl | (rw [dgs_zero]; rfl) | (rw [List.drop_length]; rfl) | (simp; done) | (congr 2; omega) | (congr 3; omega)) ?_)) ?_
  rintro ⟨i, ys⟩ ⟨hi, hl, hy, hz⟩
  try dsimp only at *
  refine T.seq ?_
  refine T.seq ?_
  refine T.text [.l, .l] rfl ?_
  refine J.move rfl rfl ?_
  refine J.lss rfl rfl rfl rfl ?_
  refine J.end ?_
  refine X.then ?_
  refine T.cond_dec rfl (fun h1 => ?_) (fun h1 => ?_)
  · have hyi := hz i (Nat.le_refl _) (by omega)
    have hb0 := bit_lt x0 i
    have hb1 := bit_lt x1 i
    have hm := bit_and_le hb0 hb1
    refine T.skip ?_
    refine X.then ?_
    refine T.seq ?_
    refine T.block ?_
    refine T.draw [] [(0, .g), (1, .g), (2, .g), (3, .q), (4, .g), (5, .g), (6, .q), (7, .g), (8, .g), (9, .l)] (by kernel_rfl) (by kernel_rfl) ?_ (by repeat (first | exact Sub.nil _ | refine Sub.cons (by first | rfl | (rw [dgs_zero]; rfl) | (rw [List.drop_length]; rfl) | (simp; done) | (congr 2; omega) | (congr 3; omega)) ?_))
    refine J.move rfl rfl ?_
    refine J.move rfl rfl ?_
    refine J.indexArr arr60 rfl rfl (by omega) (by omega) (by first | exact Int.toNat_natCast _ | rfl) rfl ?_
    refine J.load1 (k := .q) trivial 5 rfl rfl one3 (by exact rowN_get0 _ _ _ (by omega)) rfl ?_
    refine J.as 19 (.int .i64 ((x0 / 2 ^ i % 2 : Nat) : Int)) rfl (by rw [hyi]) ?_
    refine J.move rfl rfl ?_
    refine J.indexArr arr60 rfl rfl (by omega) (by omega) (by first | exact Int.toNat_natCast _ | rfl) rfl ?_
    refine J.load1 (k := .q) trivial 6 rfl rfl one3 (by exact rowN_get0 _ _ _ (by rw [bitsL_length]; omega)) rfl ?_
    refine J.as 22 (.int .i64 ((x1 / 2 ^ i % 2 : Nat) : Int)) rfl (by rw [bitsL_get _ _ _ (by omega)]) ?_
    refine J.mul rfl rfl rfl (by first | exact mul_nat _ _ (by omega) | exact i64_ok _ (by omega) | exact rfl) ?_
    refine J.indexArr arr60 rfl rfl (by omega) (by omega) (by first | exact Int.toNat_natCast _ | rfl) rfl ?_
    refine J.store 5 rfl rfl rfl rfl [.int .i64 ((x0 / 2 ^ i % 2 * (x1 / 2 ^ i % 2) : Nat) : Int)] rfl sz3 (by rw [rowN_length, hl]; show _ + 1 ≤ 256; omega) (by first | exact rowN_one _ _ | (simp; done) | (intro u hu; simp at hu; subst hu; rfl) | (intro u hu; simp at hu; rcases hu with rfl | rfl <;> rfl)) (by first | decide | exact Nat.zero_lt_succ _ | simp) trivial (rowN .i64 (ys.set i (x0 / 2 ^ i % 2 * (x1 / 2 ^ i % 2)))) (by rw [Nat.zero_add, Nat.mul_one]; exact putN' _ _ _ _ (by omega)) ?_
    refine J.end ?_
    refine X.inBlock (X.then ?_)
    refine T.text [.l, .l, .l] rfl ?_
    refine J.move rfl rfl ?_
    refine J.add rfl rfl rfl (by first | exact add_nat _ 1 (by omega) | exact i64_ok _ (by omega) | exact rfl) ?_
    refine J.assign rfl rfl ?_
    refine J.end ?_
    exact X.round ⟨(i + 1), (ys.set i (x0 / 2 ^ i % 2 * (x1 / 2 ^ i % 2)))⟩ ⟨by omega, by simp [hl], set_bits (f := fun q => x0 / 2 ^ q % 2 * (x1 / 2 ^ q % 2)) hl (by omega) hy rfl, set_rest hl (by omega) hz⟩ (by first | omega | (dsimp only; omega)) (by repeat (first | exact Sub.nil _ | refine Sub.cons (by first | rfl | (rw [dgs_zero]; rfl) | (rw [List.drop_length]; rfl) | (simp; done) | (congr 2; omega) | (congr 3; omega)) ?_)) (by repeat (first | exact Sub.nil _ | refine Sub.cons (by first | rfl | (rw [dgs_zero]; rfl) | (rw [List.drop_length]; rfl) | (simp; done) | (congr 2; omega) | (congr 3; omega)) ?_))
  · obtain rfl : i = 256 := by omega
    have hdq := dq_of (f := fun q => x0 / 2 ^ q % 2 * (x1 / 2 ^ q % 2)) hl hy (fun q => bit_and_le (bit_lt x0 q) (bit_lt x1 q))
    have hof := ofB_list (f := fun q => x0 / 2 ^ q % 2 * (x1 / 2 ^ q % 2)) hl hy
    refine T.exit ?_
    refine X.then_exit (X.then_exit (X.inBlock_eq (X.then ?_)))
    refine T.seq ?_
    refine T.text [.l, .l, .l] rfl ?_
    refine J.loadN (k := .l) trivial 5 rfl rfl agg60 (rowN .i64 ys) (by rw [rowN_length, hl]) (by rw [List.drop_zero]; exact List.take_of_length_le (by rw [rowN_length, hl]; omega)) rfl ?_
    refine J.call0 (k := .l) trivial fok72 rfl rfl (fun w hw => Rk.joined w ys hl hdq) ?_
    refine J.store 4 rfl rfl rfl rfl (wc (vq 2 ys)) rfl sz24 (by first | decide | exact Nat.le_refl _ | exact Nat.le_of_ble_eq_true rfl | (simp [rowN]; done) | (simp [rowN]; omega)) (by first | exact rowN_one _ _ | (simp; done) | (intro u hu; simp at hu; subst hu; rfl) | (intro u hu; simp at hu; rcases hu with rfl | rfl <;> rfl)) (by first | decide | exact Nat.zero_lt_succ _ | simp) trivial (wc (vq 2 ys)) rfl ?_
    refine J.end ?_
    refine X.then ?_
    refine T.ret ?_
    exact X.ret1 rfl (RV.agg 4 rfl rfl agg24 (wc (vq 2 ys)) (by rfl) (by rfl) rfl) (fun w' hw' => ⟨retW (by rw [hof, ofB_and]; try rw [Nat.mod_mod]), hw'.sub (Sub.nil _)⟩)

theorem Or (w : World) (x0 : Nat) (x1 : Nat) :
    Calls Tryz.prog 81 [W x0, W x1].toArray w fun e w' => e = .returned (W (x0 ||| x1)) ∧ WS w [] [] w' := by
  refine calls_of_T [] 35 [] Tryz.func81 rfl Tryz.ntmps81 (by simp) (WS.refl _ _) ?_
  refine T.seq ?_
  refine T.text [.l, .l, .l] rfl ?_
  refine J.box 2 rfl rfl (wc x0) rfl rfl (fun g2 hg2 => ?_)
  refine J.box 3 rfl rfl (wc x1) rfl rfl (fun g3 hg3 => ?_)
  refine J.alloc 4 rfl zero24 [.int .u64 0, .int .u64 0, .int .u64 0, .int .u64 0] rfl rfl (fun g4 hg4 => ?_)
  refine J.end ?_
  refine X.then ?_
  refine T.seq ?_
  refine T.text [.l, .l, .l, .l] rfl ?_
  refine J.loadN (k := .l) trivial 2 rfl rfl agg24 (wc x0) rfl rfl rfl ?_
  refine J.call0 (k := .l) trivial fok71 rfl rfl (fun w hw => Rk.bits w _) ?_
  refine J.alloc 5 rfl zero256 (rowN .i64 (List.replicate 256 0)) rfl rfl (fun g5 hg5 => ?_)
  refine J.store 5 rfl rfl rfl rfl (rowN .i64 (bitsL x0 256)) rfl (by rw [rowN_length, bitsL_length]; exact sz60) (by rw [rowN_length, bitsL_length]; exact Nat.le_refl _) (by first | exact rowN_one _ _ | (simp; done) | (intro u hu; simp at hu; subst hu; rfl) | (intro u hu; simp at hu; rcases hu with rfl | rfl <;> rfl)) (by rw [rowN_length, bitsL_length]; decide) trivial (rowN .i64 (bitsL x0 256)) (put_whole _ _ (by rw [rowN_length, rowN_length, List.length_replicate, bitsL_length])) ?_
  refine J.end ?_
  refine X.then ?_
  refine T.seq ?_
  refine T.text [.l, .l, .l, .l] rfl ?_
  refine J.loadN (k := .l) trivial 3 rfl rfl agg24 (wc x1) rfl rfl rfl ?_
  refine J.call0 (k := .l) trivial fok71 rfl rfl (fun w hw => Rk.bits w _) ?_
  refine J.alloc 6 rfl zero256 (rowN .i64 (List.replicate 256 0)) rfl rfl (fun g6 hg6 => ?_)
  refine J.store 6 rfl rfl rfl rfl (rowN .i64 (bitsL x1 256)) rfl (by rw [rowN_length, bitsL_length]; exact sz60) (by rw [rowN_length, bitsL_length]; exact Nat.le_refl _) (by first | exact rowN_one _ _ | (simp; done) | (intro u hu; simp at hu; subst hu; rfl) | (intro u hu; simp at hu; rcases hu with rfl | rfl <;> rfl)) (by rw [rowN_length, bitsL_length]; decide) trivial (rowN .i64 (bitsL x1 256)) (put_whole _ _ (by rw [rowN_length, rowN_length, List.length_replicate, bitsL_length])) ?_
  refine J.end ?_
  refine X.then ?_
  refine T.seq ?_
  refine T.seq ?_
  refine T.text [.l] rfl ?_
  refine J.assign rfl rfl ?_
  refine J.end ?_
  refine X.then ?_
  refine T.block ?_
  refine T.loop (ι := Nat × List Nat) (fun ((i, ys) : Nat × List Nat) => i ≤ 256 ∧ ys.length = 256 ∧ (∀ q, q < i → ys.getD q 0 = x0 / 2 ^ q % 2 + x1 / 2 ^ q % 2 - x0 / 2 ^ q % 2 * (x1 / 2 ^ q % 2)) ∧ ∀ q, i ≤ q → q < 256 → ys.getD q 0 = x0 / 2 ^ q % 2) (fun ((i, ys) : Nat × List Nat) => [(0, W x0), (1, W x1), (2, .pointer (some ⟨g2, 0, none⟩)), (3, .pointer (some ⟨g3, 0, none⟩)), (4, .pointer (some ⟨g4, 0, none⟩)), (5, .pointer (some ⟨g5, 0, none⟩)), (6, .pointer (some ⟨g6, 0, none⟩)), (7, .int .i64 (i : Int))]) (fun ((i, ys) : Nat × List Nat) => [(2, ⟨some g2, 24, (wc x0)⟩), (3, ⟨some g3, 24, (wc x1)⟩), (4, ⟨some g4, 24, [.int .u64 0, .int .u64 0, .int .u64 0, .int .u64 0]⟩), (6, ⟨some g6, 60, (rowN .i64 (bitsL x1 256))⟩), (5, ⟨some g5, 60, rowN .i64 ys⟩)]) (fun ((i, ys) : Nat × List Nat) => 256 - i) ⟨0, (bitsL x0 256)⟩ ⟨Nat.zero_le _, bitsL_length _ _, fun q hq => by omega, fun q _ hq => bitsL_get _ _ _ hq⟩ (by repeat (first | exact Sub.nil _ | refine Sub.cons (by first | rfl | (rw [dgs_zero]; rfl) | (rw [List.drop_length]; rfl) | (simp; done) | (congr 2; omega) | (congr 3; omega)) ?_)) (by repeat (first | exact Sub.nil _ | refine Sub.cons (by first | rfl | (rw [dgs_zero]; rfl) | (rw [List.drop_length]; rfl) | (simp; done) | (congr 2; omega) | (congr 3; omega)) ?_)) ?_
  rintro ⟨i, ys⟩ ⟨hi, hl, hy, hz⟩
  try dsimp only at *
  refine T.seq ?_
  refine T.seq ?_
  refine T.text [.l, .l] rfl ?_
  refine J.move rfl rfl ?_
  refine J.lss rfl rfl rfl rfl ?_
  refine J.end ?_
  refine X.then ?_
  refine T.cond_dec rfl (fun h1 => ?_) (fun h1 => ?_)
  · have hyi := hz i (Nat.le_refl _) (by omega)
    have hb0 := bit_lt x0 i
    have hb1 := bit_lt x1 i
    have hm := bit_or_le hb0 hb1
    refine T.skip ?_
    refine X.then ?_
    refine T.seq ?_
    refine T.block ?_
    refine T.draw [] [(0, .g), (1, .g), (2, .g), (3, .q), (4, .g), (5, .g), (6, .q), (7, .g), (8, .g), (9, .g), (10, .q), (11, .g), (12, .g), (13, .q), (14, .g), (15, .g), (16, .g), (17, .l)] (by kernel_rfl) (by kernel_rfl) ?_ (by repeat (first | exact Sub.nil _ | refine Sub.cons (by first | rfl | (rw [dgs_zero]; rfl) | (rw [List.drop_length]; rfl) | (simp; done) | (congr 2; omega) | (congr 3; omega)) ?_))
    refine J.move rfl rfl ?_
    refine J.move rfl rfl ?_
    refine J.indexArr arr60 rfl rfl (by omega) (by omega) (by first | exact Int.toNat_natCast _ | rfl) rfl ?_
    refine J.load1 (k := .q) trivial 5 rfl rfl one3 (by exact rowN_get0 _ _ _ (by omega)) rfl ?_
    refine J.as 19 (.int .i64 ((x0 / 2 ^ i % 2 : Nat) : Int)) rfl (by rw [hyi]) ?_
    refine J.move rfl rfl ?_
    refine J.indexArr arr60 rfl rfl (by omega) (by omega) (by first | exact Int.toNat_natCast _ | rfl) rfl ?_
    refine J.load1 (k := .q) trivial 6 rfl rfl one3 (by exact rowN_get0 _ _ _ (by rw [bitsL_length]; omega)) rfl ?_
    refine J.as 22 (.int .i64 ((x1 / 2 ^ i % 2 : Nat) : Int)) rfl (by rw [bitsL_get _ _ _ (by omega)]) ?_
    refine J.add rfl rfl rfl (by first | exact add_nat _ _ (by omega) | exact i64_ok _ (by omega) | exact rfl) ?_
    refine J.move rfl rfl ?_
    refine J.indexArr arr60 rfl rfl (by omega) (by omega) (by first | exact Int.toNat_natCast _ | rfl) rfl ?_
    refine J.load1 (k := .q) trivial 5 rfl rfl one3 (by exact rowN_get0 _ _ _ (by omega)) rfl ?_
    refine J.as 26 (.int .i64 ((x0 / 2 ^ i % 2 : Nat) : Int)) rfl (by rw [hyi]) ?_
    refine J.move rfl rfl ?_
    refine J.indexArr arr60 rfl rfl (by omega) (by omega) (by first | exact Int.toNat_natCast _ | rfl) rfl ?_
    refine J.load1 (k := .q) trivial 6 rfl rfl one3 (by exact rowN_get0 _ _ _ (by rw [bitsL_length]; omega)) rfl ?_
    refine J.as 29 (.int .i64 ((x1 / 2 ^ i % 2 : Nat) : Int)) rfl (by rw [bitsL_get _ _ _ (by omega)]) ?_
    refine J.mul rfl rfl rfl (by first | exact mul_nat _ _ (by omega) | exact i64_ok _ (by omega) | exact rfl) ?_
    refine J.sub' rfl rfl rfl (by first | exact sub_nat _ _ (by omega) | exact i64_ok _ (by omega) | exact rfl) ?_
    refine J.indexArr arr60 rfl rfl (by omega) (by omega) (by first | exact Int.toNat_natCast _ | rfl) rfl ?_
    refine J.store 5 rfl rfl rfl rfl [.int .i64 ((x0 / 2 ^ i % 2 + x1 / 2 ^ i % 2 - x0 / 2 ^ i % 2 * (x1 / 2 ^ i % 2) : Nat) : Int)] rfl sz3 (by rw [rowN_length, hl]; show _ + 1 ≤ 256; omega) (by first | exact rowN_one _ _ | (simp; done) | (intro u hu; simp at hu; subst hu; rfl) | (intro u hu; simp at hu; rcases hu with rfl | rfl <;> rfl)) (by first | decide | exact Nat.zero_lt_succ _ | simp) trivial (rowN .i64 (ys.set i (x0 / 2 ^ i % 2 + x1 / 2 ^ i % 2 - x0 / 2 ^ i % 2 * (x1 / 2 ^ i % 2)))) (by rw [Nat.zero_add, Nat.mul_one]; exact putN' _ _ _ _ (by omega)) ?_
    refine J.end ?_
    refine X.inBlock (X.then ?_)
    refine T.text [.l, .l, .l] rfl ?_
    refine J.move rfl rfl ?_
    refine J.add rfl rfl rfl (by first | exact add_nat _ 1 (by omega) | exact i64_ok _ (by omega) | exact rfl) ?_
    refine J.assign rfl rfl ?_
    refine J.end ?_
    exact X.round ⟨(i + 1), (ys.set i (x0 / 2 ^ i % 2 + x1 / 2 ^ i % 2 - x0 / 2 ^ i % 2 * (x1 / 2 ^ i % 2)))⟩ ⟨by omega, by simp [hl], set_bits (f := fun q => x0 / 2 ^ q % 2 + x1 / 2 ^ q % 2 - x0 / 2 ^ q % 2 * (x1 / 2 ^ q % 2)) hl (by omega) hy rfl, set_rest hl (by omega) hz⟩ (by first | omega | (dsimp only; omega)) (by repeat (first | exact Sub.nil _ | refine Sub.cons (by first | rfl | (rw [dgs_zero]; rfl) | (rw [List.drop_length]; rfl) | (simp; done) | (congr 2; omega) | (congr 3; omega)) ?_)) (by repeat (first | exact Sub.nil _ | refine Sub.cons (by first | rfl | (rw [dgs_zero]; rfl) | (rw [List.drop_length]; rfl) | (simp; done) | (congr 2; omega) | (congr 3; omega)) ?_))
  · obtain rfl : i = 256 := by omega
    have hdq := dq_of (f := fun q => x0 / 2 ^ q % 2 + x1 / 2 ^ q % 2 - x0 / 2 ^ q % 2 * (x1 / 2 ^ q % 2)) hl hy (fun q => (bit_or_le (bit_lt x0 q) (bit_lt x1 q)).2)
    have hof := ofB_list (f := fun q => x0 / 2 ^ q % 2 + x1 / 2 ^ q % 2 - x0 / 2 ^ q % 2 * (x1 / 2 ^ q % 2)) hl hy
    refine T.exit ?_
    refine X.then_exit (X.then_exit (X.inBlock_eq (X.then ?_)))
    refine T.seq ?_
    refine T.text [.l, .l, .l] rfl ?_
    refine J.loadN (k := .l) trivial 5 rfl rfl agg60 (rowN .i64 ys) (by rw [rowN_length, hl]) (by rw [List.drop_zero]; exact List.take_of_length_le (by rw [rowN_length, hl]; omega)) rfl ?_
    refine J.call0 (k := .l) trivial fok72 rfl rfl (fun w hw => Rk.joined w ys hl hdq) ?_
    refine J.store 4 rfl rfl rfl rfl (wc (vq 2 ys)) rfl sz24 (by first | decide | exact Nat.le_refl _ | exact Nat.le_of_ble_eq_true rfl | (simp [rowN]; done) | (simp [rowN]; omega)) (by first | exact rowN_one _ _ | (simp; done) | (intro u hu; simp at hu; subst hu; rfl) | (intro u hu; simp at hu; rcases hu with rfl | rfl <;> rfl)) (by first | decide | exact Nat.zero_lt_succ _ | simp) trivial (wc (vq 2 ys)) rfl ?_
    refine J.end ?_
    refine X.then ?_
    refine T.ret ?_
    exact X.ret1 rfl (RV.agg 4 rfl rfl agg24 (wc (vq 2 ys)) (by rfl) (by rfl) rfl) (fun w' hw' => ⟨retW (by rw [hof, ofB_or]; try rw [Nat.mod_mod]), hw'.sub (Sub.nil _)⟩)

theorem Xor (w : World) (x0 : Nat) (x1 : Nat) :
    Calls Tryz.prog 82 [W x0, W x1].toArray w fun e w' => e = .returned (W (x0 ^^^ x1)) ∧ WS w [] [] w' := by
  refine calls_of_T [] 28 [] Tryz.func82 rfl Tryz.ntmps82 (by simp) (WS.refl _ _) ?_
  refine T.seq ?_
  refine T.text [.l, .l, .l] rfl ?_
  refine J.box 2 rfl rfl (wc x0) rfl rfl (fun g2 hg2 => ?_)
  refine J.box 3 rfl rfl (wc x1) rfl rfl (fun g3 hg3 => ?_)
  refine J.alloc 4 rfl zero24 [.int .u64 0, .int .u64 0, .int .u64 0, .int .u64 0] rfl rfl (fun g4 hg4 => ?_)
  refine J.end ?_
  refine X.then ?_
  refine T.seq ?_
  refine T.text [.l, .l, .l, .l] rfl ?_
  refine J.loadN (k := .l) trivial 2 rfl rfl agg24 (wc x0) rfl rfl rfl ?_
  refine J.call0 (k := .l) trivial fok71 rfl rfl (fun w hw => Rk.bits w _) ?_
  refine J.alloc 5 rfl zero256 (rowN .i64 (List.replicate 256 0)) rfl rfl (fun g5 hg5 => ?_)
  refine J.store 5 rfl rfl rfl rfl (rowN .i64 (bitsL x0 256)) rfl (by rw [rowN_length, bitsL_length]; exact sz60) (by rw [rowN_length, bitsL_length]; exact Nat.le_refl _) (by first | exact rowN_one _ _ | (simp; done) | (intro u hu; simp at hu; subst hu; rfl) | (intro u hu; simp at hu; rcases hu with rfl | rfl <;> rfl)) (by rw [rowN_length, bitsL_length]; decide) trivial (rowN .i64 (bitsL x0 256)) (put_whole _ _ (by rw [rowN_length, rowN_length, List.length_replicate, bitsL_length])) ?_
  refine J.end ?_
  refine X.then ?_
  refine T.seq ?_
  refine T.text [.l, .l, .l, .l] rfl ?_
  refine J.loadN (k := .l) trivial 3 rfl rfl agg24 (wc x1) rfl rfl rfl ?_
  refine J.call0 (k := .l) trivial fok71 rfl rfl (fun w hw => Rk.bits w _) ?_
  refine J.alloc 6 rfl zero256 (rowN .i64 (List.replicate 256 0)) rfl rfl (fun g6 hg6 => ?_)
  refine J.store 6 rfl rfl rfl rfl (rowN .i64 (bitsL x1 256)) rfl (by rw [rowN_length, bitsL_length]; exact sz60) (by rw [rowN_length, bitsL_length]; exact Nat.le_refl _) (by first | exact rowN_one _ _ | (simp; done) | (intro u hu; simp at hu; subst hu; rfl) | (intro u hu; simp at hu; rcases hu with rfl | rfl <;> rfl)) (by rw [rowN_length, bitsL_length]; decide) trivial (rowN .i64 (bitsL x1 256)) (put_whole _ _ (by rw [rowN_length, rowN_length, List.length_replicate, bitsL_length])) ?_
  refine J.end ?_
  refine X.then ?_
  refine T.seq ?_
  refine T.seq ?_
  refine T.text [.l] rfl ?_
  refine J.assign rfl rfl ?_
  refine J.end ?_
  refine X.then ?_
  refine T.block ?_
  refine T.loop (ι := Nat × List Nat) (fun ((i, ys) : Nat × List Nat) => i ≤ 256 ∧ ys.length = 256 ∧ (∀ q, q < i → ys.getD q 0 = (x0 / 2 ^ q % 2 + x1 / 2 ^ q % 2) % 2) ∧ ∀ q, i ≤ q → q < 256 → ys.getD q 0 = x0 / 2 ^ q % 2) (fun ((i, ys) : Nat × List Nat) => [(0, W x0), (1, W x1), (2, .pointer (some ⟨g2, 0, none⟩)), (3, .pointer (some ⟨g3, 0, none⟩)), (4, .pointer (some ⟨g4, 0, none⟩)), (5, .pointer (some ⟨g5, 0, none⟩)), (6, .pointer (some ⟨g6, 0, none⟩)), (7, .int .i64 (i : Int))]) (fun ((i, ys) : Nat × List Nat) => [(2, ⟨some g2, 24, (wc x0)⟩), (3, ⟨some g3, 24, (wc x1)⟩), (4, ⟨some g4, 24, [.int .u64 0, .int .u64 0, .int .u64 0, .int .u64 0]⟩), (6, ⟨some g6, 60, (rowN .i64 (bitsL x1 256))⟩), (5, ⟨some g5, 60, rowN .i64 ys⟩)]) (fun ((i, ys) : Nat × List Nat) => 256 - i) ⟨0, (bitsL x0 256)⟩ ⟨Nat.zero_le _, bitsL_length _ _, fun q hq => by omega, fun q _ hq => bitsL_get _ _ _ hq⟩ (by repeat (first | exact Sub.nil _ | refine Sub.cons (by first | rfl | (rw [dgs_zero]; rfl) | (rw [List.drop_length]; rfl) | (simp; done) | (congr 2; omega) | (congr 3; omega)) ?_)) (by repeat (first | exact Sub.nil _ | refine Sub.cons (by first | rfl | (rw [dgs_zero]; rfl) | (rw [List.drop_length]; rfl) | (simp; done) | (congr 2; omega) | (congr 3; omega)) ?_)) ?_
  rintro ⟨i, ys⟩ ⟨hi, hl, hy, hz⟩
  try dsimp only at *
  refine T.seq ?_
  refine T.seq ?_
  refine T.text [.l, .l] rfl ?_
  refine J.move rfl rfl ?_
  refine J.lss rfl rfl rfl rfl ?_
  refine J.end ?_
  refine X.then ?_
  refine T.cond_dec rfl (fun h1 => ?_) (fun h1 => ?_)
  · have hyi := hz i (Nat.le_refl _) (by omega)
    have hb0 := bit_lt x0 i
    have hb1 := bit_lt x1 i
    refine T.skip ?_
    refine X.then ?_
    refine T.seq ?_
    refine T.block ?_
    refine T.draw [] [(0, .g), (1, .g), (2, .g), (3, .q), (4, .g), (5, .g), (6, .q), (7, .g), (8, .g), (9, .g), (10, .l)] (by kernel_rfl) (by kernel_rfl) ?_ (by repeat (first | exact Sub.nil _ | refine Sub.cons (by first | rfl | (rw [dgs_zero]; rfl) | (rw [List.drop_length]; rfl) | (simp; done) | (congr 2; omega) | (congr 3; omega)) ?_))
    refine J.move rfl rfl ?_
    refine J.move rfl rfl ?_
    refine J.indexArr arr60 rfl rfl (by omega) (by omega) (by first | exact Int.toNat_natCast _ | rfl) rfl ?_
    refine J.load1 (k := .q) trivial 5 rfl rfl one3 (by exact rowN_get0 _ _ _ (by omega)) rfl ?_
    refine J.as 19 (.int .i64 ((x0 / 2 ^ i % 2 : Nat) : Int)) rfl (by rw [hyi]) ?_
    refine J.move rfl rfl ?_
    refine J.indexArr arr60 rfl rfl (by omega) (by omega) (by first | exact Int.toNat_natCast _ | rfl) rfl ?_
    refine J.load1 (k := .q) trivial 6 rfl rfl one3 (by exact rowN_get0 _ _ _ (by rw [bitsL_length]; omega)) rfl ?_
    refine J.as 22 (.int .i64 ((x1 / 2 ^ i % 2 : Nat) : Int)) rfl (by rw [bitsL_get _ _ _ (by omega)]) ?_
    refine J.add rfl rfl rfl (by first | exact add_nat _ _ (by omega) | exact i64_ok _ (by omega) | exact rfl) ?_
    refine J.rem rfl rfl rfl (by omega) (by first | exact rem_nat _ 2 | exact rem_ok _ _ (by omega) | exact rfl) ?_
    refine J.indexArr arr60 rfl rfl (by omega) (by omega) (by first | exact Int.toNat_natCast _ | rfl) rfl ?_
    refine J.store 5 rfl rfl rfl rfl [.int .i64 (((x0 / 2 ^ i % 2 + x1 / 2 ^ i % 2) % 2 : Nat) : Int)] rfl sz3 (by rw [rowN_length, hl]; show _ + 1 ≤ 256; omega) (by first | exact rowN_one _ _ | (simp; done) | (intro u hu; simp at hu; subst hu; rfl) | (intro u hu; simp at hu; rcases hu with rfl | rfl <;> rfl)) (by first | decide | exact Nat.zero_lt_succ _ | simp) trivial (rowN .i64 (ys.set i ((x0 / 2 ^ i % 2 + x1 / 2 ^ i % 2) % 2))) (by rw [Nat.zero_add, Nat.mul_one]; exact putN' _ _ _ _ (by omega)) ?_
    refine J.end ?_
    refine X.inBlock (X.then ?_)
    refine T.text [.l, .l, .l] rfl ?_
    refine J.move rfl rfl ?_
    refine J.add rfl rfl rfl (by first | exact add_nat _ 1 (by omega) | exact i64_ok _ (by omega) | exact rfl) ?_
    refine J.assign rfl rfl ?_
    refine J.end ?_
    exact X.round ⟨(i + 1), (ys.set i ((x0 / 2 ^ i % 2 + x1 / 2 ^ i % 2) % 2))⟩ ⟨by omega, by simp [hl], set_bits (f := fun q => (x0 / 2 ^ q % 2 + x1 / 2 ^ q % 2) % 2) hl (by omega) hy rfl, set_rest hl (by omega) hz⟩ (by first | omega | (dsimp only; omega)) (by repeat (first | exact Sub.nil _ | refine Sub.cons (by first | rfl | (rw [dgs_zero]; rfl) | (rw [List.drop_length]; rfl) | (simp; done) | (congr 2; omega) | (congr 3; omega)) ?_)) (by repeat (first | exact Sub.nil _ | refine Sub.cons (by first | rfl | (rw [dgs_zero]; rfl) | (rw [List.drop_length]; rfl) | (simp; done) | (congr 2; omega) | (congr 3; omega)) ?_))
  · obtain rfl : i = 256 := by omega
    have hdq := dq_of (f := fun q => (x0 / 2 ^ q % 2 + x1 / 2 ^ q % 2) % 2) hl hy (fun q => by have := Nat.mod_lt (x0 / 2 ^ q % 2 + x1 / 2 ^ q % 2) (show 2 > 0 by omega); omega)
    have hof := ofB_list (f := fun q => (x0 / 2 ^ q % 2 + x1 / 2 ^ q % 2) % 2) hl hy
    refine T.exit ?_
    refine X.then_exit (X.then_exit (X.inBlock_eq (X.then ?_)))
    refine T.seq ?_
    refine T.text [.l, .l, .l] rfl ?_
    refine J.loadN (k := .l) trivial 5 rfl rfl agg60 (rowN .i64 ys) (by rw [rowN_length, hl]) (by rw [List.drop_zero]; exact List.take_of_length_le (by rw [rowN_length, hl]; omega)) rfl ?_
    refine J.call0 (k := .l) trivial fok72 rfl rfl (fun w hw => Rk.joined w ys hl hdq) ?_
    refine J.store 4 rfl rfl rfl rfl (wc (vq 2 ys)) rfl sz24 (by first | decide | exact Nat.le_refl _ | exact Nat.le_of_ble_eq_true rfl | (simp [rowN]; done) | (simp [rowN]; omega)) (by first | exact rowN_one _ _ | (simp; done) | (intro u hu; simp at hu; subst hu; rfl) | (intro u hu; simp at hu; rcases hu with rfl | rfl <;> rfl)) (by first | decide | exact Nat.zero_lt_succ _ | simp) trivial (wc (vq 2 ys)) rfl ?_
    refine J.end ?_
    refine X.then ?_
    refine T.ret ?_
    exact X.ret1 rfl (RV.agg 4 rfl rfl agg24 (wc (vq 2 ys)) (by rfl) (by rfl) rfl) (fun w' hw' => ⟨retW (by rw [hof, ofB_xor]; try rw [Nat.mod_mod]), hw'.sub (Sub.nil _)⟩)

theorem Not (w : World) (x0 : Nat) :
    Calls Tryz.prog 83 [W x0].toArray w fun e w' => e = .returned (W (notN x0)) ∧ WS w [] [] w' := by
  refine calls_of_T [] 19 [] Tryz.func83 rfl Tryz.ntmps83 (by simp) (WS.refl _ _) ?_
  refine T.seq ?_
  refine T.text [.l, .l] rfl ?_
  refine J.box 1 rfl rfl (wc x0) rfl rfl (fun g1 hg1 => ?_)
  refine J.alloc 2 rfl zero24 [.int .u64 0, .int .u64 0, .int .u64 0, .int .u64 0] rfl rfl (fun g2 hg2 => ?_)
  refine J.end ?_
  refine X.then ?_
  refine T.seq ?_
  refine T.text [.l, .l, .l, .l] rfl ?_
  refine J.loadN (k := .l) trivial 1 rfl rfl agg24 (wc x0) rfl rfl rfl ?_
  refine J.call0 (k := .l) trivial fok71 rfl rfl (fun w hw => Rk.bits w _) ?_
  refine J.alloc 3 rfl zero256 (rowN .i64 (List.replicate 256 0)) rfl rfl (fun g3 hg3 => ?_)
  refine J.store 3 rfl rfl rfl rfl (rowN .i64 (bitsL x0 256)) rfl (by rw [rowN_length, bitsL_length]; exact sz60) (by rw [rowN_length, bitsL_length]; exact Nat.le_refl _) (by first | exact rowN_one _ _ | (simp; done) | (intro u hu; simp at hu; subst hu; rfl) | (intro u hu; simp at hu; rcases hu with rfl | rfl <;> rfl)) (by rw [rowN_length, bitsL_length]; decide) trivial (rowN .i64 (bitsL x0 256)) (put_whole _ _ (by rw [rowN_length, rowN_length, List.length_replicate, bitsL_length])) ?_
  refine J.end ?_
  refine X.then ?_
  refine T.seq ?_
  refine T.seq ?_
  refine T.text [.l] rfl ?_
  refine J.assign rfl rfl ?_
  refine J.end ?_
  refine X.then ?_
  refine T.block ?_
  refine T.loop (ι := Nat × List Nat) (fun ((i, ys) : Nat × List Nat) => i ≤ 256 ∧ ys.length = 256 ∧ (∀ q, q < i → ys.getD q 0 = 1 - x0 / 2 ^ q % 2) ∧ ∀ q, i ≤ q → q < 256 → ys.getD q 0 = x0 / 2 ^ q % 2) (fun ((i, ys) : Nat × List Nat) => [(0, W x0), (1, .pointer (some ⟨g1, 0, none⟩)), (2, .pointer (some ⟨g2, 0, none⟩)), (3, .pointer (some ⟨g3, 0, none⟩)), (4, .int .i64 (i : Int))]) (fun ((i, ys) : Nat × List Nat) => [(1, ⟨some g1, 24, (wc x0)⟩), (2, ⟨some g2, 24, [.int .u64 0, .int .u64 0, .int .u64 0, .int .u64 0]⟩), (3, ⟨some g3, 60, rowN .i64 ys⟩)]) (fun ((i, ys) : Nat × List Nat) => 256 - i) ⟨0, (bitsL x0 256)⟩ ⟨Nat.zero_le _, bitsL_length _ _, fun q hq => by omega, fun q _ hq => bitsL_get _ _ _ hq⟩ (by repeat (first | exact Sub.nil _ | refine Sub.cons (by first | rfl | (rw [dgs_zero]; rfl) | (rw [List.drop_length]; rfl) | (simp; done) | (congr 2; omega) | (congr 3; omega)) ?_)) (by repeat (first | exact Sub.nil _ | refine Sub.cons (by first | rfl | (rw [dgs_zero]; rfl) | (rw [List.drop_length]; rfl) | (simp; done) | (congr 2; omega) | (congr 3; omega)) ?_)) ?_
  rintro ⟨i, ys⟩ ⟨hi, hl, hy, hz⟩
  try dsimp only at *
  refine T.seq ?_
  refine T.seq ?_
  refine T.text [.l, .l] rfl ?_
  refine J.move rfl rfl ?_
  refine J.lss rfl rfl rfl rfl ?_
  refine J.end ?_
  refine X.then ?_
  refine T.cond_dec rfl (fun h1 => ?_) (fun h1 => ?_)
  · have hyi := hz i (Nat.le_refl _) (by omega)
    have hb0 := bit_lt x0 i
    refine T.skip ?_
    refine X.then ?_
    refine T.seq ?_
    refine T.block ?_
    refine T.text [.l, .l, .l, .l, .l, .l, .l] rfl ?_
    refine J.move rfl rfl ?_
    refine J.move rfl rfl ?_
    refine J.indexArr arr60 rfl rfl (by omega) (by omega) (by first | exact Int.toNat_natCast _ | rfl) rfl ?_
    refine J.load1 (k := .l) trivial 3 rfl rfl one3 (by exact rowN_get0 _ _ _ (by omega)) rfl ?_
    refine J.as 14 (.int .i64 ((x0 / 2 ^ i % 2 : Nat) : Int)) rfl (by rw [hyi]) ?_
    refine J.sub' rfl rfl rfl (by first | exact sub_nat 1 _ (by omega) | exact i64_ok _ (by omega) | exact rfl) ?_
    refine J.indexArr arr60 rfl rfl (by omega) (by omega) (by first | exact Int.toNat_natCast _ | rfl) rfl ?_
    refine J.store 3 rfl rfl rfl rfl [.int .i64 ((1 - x0 / 2 ^ i % 2 : Nat) : Int)] rfl sz3 (by rw [rowN_length, hl]; show _ + 1 ≤ 256; omega) (by first | exact rowN_one _ _ | (simp; done) | (intro u hu; simp at hu; subst hu; rfl) | (intro u hu; simp at hu; rcases hu with rfl | rfl <;> rfl)) (by first | decide | exact Nat.zero_lt_succ _ | simp) trivial (rowN .i64 (ys.set i (1 - x0 / 2 ^ i % 2))) (by rw [Nat.zero_add, Nat.mul_one]; exact putN' _ _ _ _ (by omega)) ?_
    refine J.end ?_
    refine X.inBlock (X.then ?_)
    refine T.text [.l, .l, .l] rfl ?_
    refine J.move rfl rfl ?_
    refine J.add rfl rfl rfl (by first | exact add_nat _ 1 (by omega) | exact i64_ok _ (by omega) | exact rfl) ?_
    refine J.assign rfl rfl ?_
    refine J.end ?_
    exact X.round ⟨(i + 1), (ys.set i (1 - x0 / 2 ^ i % 2))⟩ ⟨by omega, by simp [hl], set_bits (f := fun q => 1 - x0 / 2 ^ q % 2) hl (by omega) hy rfl, set_rest hl (by omega) hz⟩ (by first | omega | (dsimp only; omega)) (by repeat (first | exact Sub.nil _ | refine Sub.cons (by first | rfl | (rw [dgs_zero]; rfl) | (rw [List.drop_length]; rfl) | (simp; done) | (congr 2; omega) | (congr 3; omega)) ?_)) (by repeat (first | exact Sub.nil _ | refine Sub.cons (by first | rfl | (rw [dgs_zero]; rfl) | (rw [List.drop_length]; rfl) | (simp; done) | (congr 2; omega) | (congr 3; omega)) ?_))
  · obtain rfl : i = 256 := by omega
    have hdq := dq_of (f := fun q => 1 - x0 / 2 ^ q % 2) hl hy (fun q => by omega)
    have hof := ofB_list (f := fun q => 1 - x0 / 2 ^ q % 2) hl hy
    refine T.exit ?_
    refine X.then_exit (X.then_exit (X.inBlock_eq (X.then ?_)))
    refine T.seq ?_
    refine T.text [.l, .l, .l] rfl ?_
    refine J.loadN (k := .l) trivial 3 rfl rfl agg60 (rowN .i64 ys) (by rw [rowN_length, hl]) (by rw [List.drop_zero]; exact List.take_of_length_le (by rw [rowN_length, hl]; omega)) rfl ?_
    refine J.call0 (k := .l) trivial fok72 rfl rfl (fun w hw => Rk.joined w ys hl hdq) ?_
    refine J.store 2 rfl rfl rfl rfl (wc (vq 2 ys)) rfl sz24 (by first | decide | exact Nat.le_refl _ | exact Nat.le_of_ble_eq_true rfl | (simp [rowN]; done) | (simp [rowN]; omega)) (by first | exact rowN_one _ _ | (simp; done) | (intro u hu; simp at hu; subst hu; rfl) | (intro u hu; simp at hu; rcases hu with rfl | rfl <;> rfl)) (by first | decide | exact Nat.zero_lt_succ _ | simp) trivial (wc (vq 2 ys)) rfl ?_
    refine J.end ?_
    refine X.then ?_
    refine T.ret ?_
    exact X.ret1 rfl (RV.agg 2 rfl rfl agg24 (wc (vq 2 ys)) (by rfl) (by rfl) rfl) (fun w' hw' => ⟨retW (by rw [hof, ofB_not]; try rw [Nat.mod_mod]), hw'.sub (Sub.nil _)⟩)

theorem lowered (w : World) (x0 x1 f : Nat) (hf : f ≤ 1) :
    Calls Tryz.prog 104 [W x0, W x1, .int .i64 (f : Int)].toArray w fun e w' => e = .returned (W (ofB (fun i => if i + (min 256 (x0 % 2 ^ 256)) < 256 then x1 / 2 ^ (i + (min 256 (x0 % 2 ^ 256))) % 2 else f))) ∧ WS w [] [] w' := by
  refine calls_of_T [] 35 [] Tryz.func104 rfl Tryz.ntmps104 (by simp) (WS.refl _ _) ?_
  refine T.seq ?_
  refine T.text [.l, .l, .l] rfl ?_
  refine J.box 3 rfl rfl (wc x0) rfl rfl (fun g3 hg3 => ?_)
  refine J.box 4 rfl rfl (wc x1) rfl rfl (fun g4 hg4 => ?_)
  refine J.alloc 6 rfl zero24 [.int .u64 0, .int .u64 0, .int .u64 0, .int .u64 0] rfl rfl (fun g6 hg6 => ?_)
  refine J.end ?_
  refine X.then ?_
  refine T.seq ?_
  refine T.text [.l, .l, .l] rfl ?_
  refine J.loadN (k := .l) trivial 3 rfl rfl agg24 (wc x0) rfl rfl rfl ?_
  refine J.call0 (k := .l) trivial fok70 rfl rfl (fun w hw => Rk.upTo w _ 256 (by omega)) ?_
  refine J.assign rfl rfl ?_
  refine J.end ?_
  refine X.then ?_
  refine T.seq ?_
  refine T.text [.l, .l, .l, .l] rfl ?_
  refine J.loadN (k := .l) trivial 4 rfl rfl agg24 (wc x1) rfl rfl rfl ?_
  refine J.call0 (k := .l) trivial fok71 rfl rfl (fun w hw => Rk.bits w _) ?_
  refine J.alloc 8 rfl zero256 (rowN .i64 (List.replicate 256 0)) rfl rfl (fun g8 hg8 => ?_)
  refine J.store 8 rfl rfl rfl rfl (rowN .i64 (bitsL x1 256)) rfl (by rw [rowN_length, bitsL_length]; exact sz60) (by rw [rowN_length, bitsL_length]; exact Nat.le_refl _) (by first | exact rowN_one _ _ | (simp; done) | (intro u hu; simp at hu; subst hu; rfl) | (intro u hu; simp at hu; rcases hu with rfl | rfl <;> rfl)) (by rw [rowN_length, bitsL_length]; decide) trivial (rowN .i64 (bitsL x1 256)) (put_whole _ _ (by rw [rowN_length, rowN_length, List.length_replicate, bitsL_length])) ?_
  refine J.end ?_
  refine X.then ?_
  refine T.seq ?_
  refine T.text [.l] rfl ?_
  refine J.alloc 9 rfl zero256 (rowN .i64 (List.replicate 256 0)) rfl rfl (fun g9 hg9 => ?_)
  refine J.end ?_
  refine X.then ?_
  refine T.seq ?_
  refine T.seq ?_
  refine T.text [.l] rfl ?_
  refine J.assign rfl rfl ?_
  refine J.end ?_
  refine X.then ?_
  refine T.block ?_
  refine T.loop (ι := Nat × List Nat) (fun ((i, ys) : Nat × List Nat) => i ≤ 256 ∧ ys.length = 256 ∧ ∀ q, q < i → ys.getD q 0 = if q + (min 256 (x0 % 2 ^ 256)) < 256 then x1 / 2 ^ (q + (min 256 (x0 % 2 ^ 256))) % 2 else f) (fun ((i, ys) : Nat × List Nat) => [(0, W x0), (1, W x1), (2, .int .i64 (f : Int)), (3, .pointer (some ⟨g3, 0, none⟩)), (4, .pointer (some ⟨g4, 0, none⟩)), (6, .pointer (some ⟨g6, 0, none⟩)), (11, W x0), (12, .int .i64 ((min 256 (x0 % 2 ^ 256) : Nat) : Int)), (7, .int .i64 ((min 256 (x0 % 2 ^ 256) : Nat) : Int)), (13, W x1), (8, .pointer (some ⟨g8, 0, none⟩)), (9, .pointer (some ⟨g9, 0, none⟩)), (10, .int .i64 (i : Int))]) (fun ((i, ys) : Nat × List Nat) => [(3, ⟨some g3, 24, (wc x0)⟩), (4, ⟨some g4, 24, (wc x1)⟩), (6, ⟨some g6, 24, [.int .u64 0, .int .u64 0, .int .u64 0, .int .u64 0]⟩), (8, ⟨some g8, 60, (rowN .i64 (bitsL x1 256))⟩), (9, ⟨some g9, 60, rowN .i64 ys⟩)]) (fun ((i, ys) : Nat × List Nat) => 256 - i) ⟨0, (List.replicate 256 0)⟩ ⟨Nat.zero_le _, List.length_replicate, fun q hq => by omega⟩ (by repeat (first | exact Sub.nil _ | refine Sub.cons (by first | rfl | (rw [dgs_zero]; rfl) | (rw [List.drop_length]; rfl) | (simp; done) | (congr 2; omega) | (congr 3; omega)) ?_)) (by repeat (first | exact Sub.nil _ | refine Sub.cons (by first | rfl | (rw [dgs_zero]; rfl) | (rw [List.drop_length]; rfl) | (simp; done) | (congr 2; omega) | (congr 3; omega)) ?_)) ?_
  rintro ⟨i, ys⟩ ⟨hi, hl, hy⟩
  try dsimp only at *
  refine T.seq ?_
  refine T.seq ?_
  refine T.text [.l, .l] rfl ?_
  refine J.move rfl rfl ?_
  refine J.lss rfl rfl rfl rfl ?_
  refine J.end ?_
  refine X.then ?_
  refine T.cond_dec rfl (fun h1 => ?_) (fun h1 => ?_)
  · skip
    refine T.skip ?_
    refine X.then ?_
    refine T.seq ?_
    refine T.block ?_
    refine T.seq ?_
    refine T.text [.l, .l, .l, .l] rfl ?_
    refine J.move rfl rfl ?_
    refine J.move rfl rfl ?_
    refine J.indexArr arr60 rfl rfl (by omega) (by omega) (by first | exact Int.toNat_natCast _ | rfl) rfl ?_
    refine J.store 9 rfl rfl rfl rfl [.int .i64 ((f : Nat) : Int)] rfl sz3 (by rw [rowN_length, hl]; show _ + 1 ≤ 256; omega) (by first | exact rowN_one _ _ | (simp; done) | (intro u hu; simp at hu; subst hu; rfl) | (intro u hu; simp at hu; rcases hu with rfl | rfl <;> rfl)) (by first | decide | exact Nat.zero_lt_succ _ | simp) trivial (rowN .i64 (ys.set i (f))) (by rw [Nat.zero_add, Nat.mul_one]; exact putN' _ _ _ _ (by omega)) ?_
    refine J.end ?_
    refine X.then ?_
    refine T.seq ?_
    refine T.text [.l, .l, .l, .l] rfl ?_
    refine J.move rfl rfl ?_
    refine J.move rfl rfl ?_
    refine J.add rfl rfl rfl (by first | exact add_nat _ _ (by omega) | exact i64_ok _ (by omega) | exact rfl) ?_
    refine J.lss rfl rfl rfl rfl ?_
    refine J.end ?_
    refine X.then ?_
    refine T.cond_dec rfl (fun h2 => ?_) (fun h2 => ?_)
    · skip
      refine T.text [.l, .l, .l, .l, .l, .l, .l, .l] rfl ?_
      refine J.move rfl rfl ?_
      refine J.move rfl rfl ?_
      refine J.move rfl rfl ?_
      refine J.add rfl rfl rfl (by first | exact add_nat _ _ (by omega) | exact i64_ok _ (by omega) | exact rfl) ?_
      refine J.indexArr arr60 rfl rfl (by omega) (by omega) (by first | exact Int.toNat_natCast _ | rfl) rfl ?_
      refine J.load1 (k := .l) trivial 8 rfl rfl one3 (by exact rowN_get0 _ _ _ (by rw [bitsL_length]; omega)) rfl ?_
      refine J.as 31 (.int .i64 ((x1 / 2 ^ (i + (min 256 (x0 % 2 ^ 256))) % 2 : Nat) : Int)) rfl (by rw [bitsL_get _ _ _ (by omega)]) ?_
      refine J.indexArr arr60 rfl rfl (by omega) (by omega) (by first | exact Int.toNat_natCast _ | rfl) rfl ?_
      refine J.store 9 rfl rfl rfl rfl [.int .i64 ((x1 / 2 ^ (i + (min 256 (x0 % 2 ^ 256))) % 2 : Nat) : Int)] rfl sz3 (by rw [rowN_length, List.length_set, hl]; show _ + 1 ≤ 256; omega) (by first | exact rowN_one _ _ | (simp; done) | (intro u hu; simp at hu; subst hu; rfl) | (intro u hu; simp at hu; rcases hu with rfl | rfl <;> rfl)) (by first | decide | exact Nat.zero_lt_succ _ | simp) trivial (rowN .i64 (ys.set i (x1 / 2 ^ (i + (min 256 (x0 % 2 ^ 256))) % 2))) (by rw [Nat.zero_add, Nat.mul_one]; exact (putN' _ _ _ _ (by rw [List.length_set]; omega)).trans (congrArg (rowN .i64) (by rw [List.set_set]))) ?_
      refine J.end ?_
      refine X.inBlock (X.then ?_)
      refine T.text [.l, .l, .l] rfl ?_
      refine J.move rfl rfl ?_
      refine J.add rfl rfl rfl (by first | exact add_nat _ 1 (by omega) | exact i64_ok _ (by omega) | exact rfl) ?_
      refine J.assign rfl rfl ?_
      refine J.end ?_
      exact X.round ⟨(i + 1), (ys.set i (x1 / 2 ^ (i + (min 256 (x0 % 2 ^ 256))) % 2))⟩ ⟨by omega, by simp [hl], set_bits (f := fun q => if q + (min 256 (x0 % 2 ^ 256)) < 256 then x1 / 2 ^ (q + (min 256 (x0 % 2 ^ 256))) % 2 else f) hl (by omega) hy (by first | exact (if_pos (by omega)).symm | exact (if_neg (by omega)).symm)⟩ (by first | omega | (dsimp only; omega)) (by repeat (first | exact Sub.nil _ | refine Sub.cons (by first | rfl | (rw [dgs_zero]; rfl) | (rw [List.drop_length]; rfl) | (simp; done) | (congr 2; omega) | (congr 3; omega)) ?_)) (by repeat (first | exact Sub.nil _ | refine Sub.cons (by first | rfl | (rw [dgs_zero]; rfl) | (rw [List.drop_length]; rfl) | (simp; done) | (congr 2; omega) | (congr 3; omega)) ?_))
    · skip
      refine T.skip ?_
      refine X.inBlock (X.then ?_)
      refine T.text [.l, .l, .l] rfl ?_
      refine J.move rfl rfl ?_
      refine J.add rfl rfl rfl (by first | exact add_nat _ 1 (by omega) | exact i64_ok _ (by omega) | exact rfl) ?_
      refine J.assign rfl rfl ?_
      refine J.end ?_
      exact X.round ⟨(i + 1), (ys.set i (f))⟩ ⟨by omega, by simp [hl], set_bits (f := fun q => if q + (min 256 (x0 % 2 ^ 256)) < 256 then x1 / 2 ^ (q + (min 256 (x0 % 2 ^ 256))) % 2 else f) hl (by omega) hy (by first | exact (if_pos (by omega)).symm | exact (if_neg (by omega)).symm)⟩ (by first | omega | (dsimp only; omega)) (by repeat (first | exact Sub.nil _ | refine Sub.cons (by first | rfl | (rw [dgs_zero]; rfl) | (rw [List.drop_length]; rfl) | (simp; done) | (congr 2; omega) | (congr 3; omega)) ?_)) (by repeat (first | exact Sub.nil _ | refine Sub.cons (by first | rfl | (rw [dgs_zero]; rfl) | (rw [List.drop_length]; rfl) | (simp; done) | (congr 2; omega) | (congr 3; omega)) ?_))
  · obtain rfl : i = 256 := by omega
    have hdq := dq_of (f := fun q => if q + (min 256 (x0 % 2 ^ 256)) < 256 then x1 / 2 ^ (q + (min 256 (x0 % 2 ^ 256))) % 2 else f) hl hy (fun q => by split; exact bit_lt _ _; exact hf)
    have hof := ofB_list (f := fun q => if q + (min 256 (x0 % 2 ^ 256)) < 256 then x1 / 2 ^ (q + (min 256 (x0 % 2 ^ 256))) % 2 else f) hl hy
    refine T.exit ?_
    refine X.then_exit (X.then_exit (X.inBlock_eq (X.then ?_)))
    refine T.seq ?_
    refine T.text [.l, .l, .l] rfl ?_
    refine J.loadN (k := .l) trivial 9 rfl rfl agg60 (rowN .i64 ys) (by rw [rowN_length, hl]) (by rw [List.drop_zero]; exact List.take_of_length_le (by rw [rowN_length, hl]; omega)) rfl ?_
    refine J.call0 (k := .l) trivial fok72 rfl rfl (fun w hw => Rk.joined w ys hl hdq) ?_
    refine J.store 6 rfl rfl rfl rfl (wc (vq 2 ys)) rfl sz24 (by first | decide | exact Nat.le_refl _ | exact Nat.le_of_ble_eq_true rfl | (simp [rowN]; done) | (simp [rowN]; omega)) (by first | exact rowN_one _ _ | (simp; done) | (intro u hu; simp at hu; subst hu; rfl) | (intro u hu; simp at hu; rcases hu with rfl | rfl <;> rfl)) (by first | decide | exact Nat.zero_lt_succ _ | simp) trivial (wc (vq 2 ys)) rfl ?_
    refine J.end ?_
    refine X.then ?_
    refine T.ret ?_
    exact X.ret1 rfl (RV.agg 6 rfl rfl agg24 (wc (vq 2 ys)) (by rfl) (by rfl) rfl) (fun w' hw' => ⟨by rw [hof], hw'.sub (Sub.nil _)⟩)

theorem Shl (w : World) (x0 : Nat) (x1 : Nat) :
    Calls Tryz.prog 85 [W x0, W x1].toArray w fun e w' => e = .returned (W (shlN x0 x1)) ∧ WS w [] [] w' := by
  refine calls_of_T [] 27 [] Tryz.func85 rfl Tryz.ntmps85 (by simp) (WS.refl _ _) ?_
  refine T.seq ?_
  refine T.text [.l, .l, .l] rfl ?_
  refine J.box 2 rfl rfl (wc x0) rfl rfl (fun g2 hg2 => ?_)
  refine J.box 3 rfl rfl (wc x1) rfl rfl (fun g3 hg3 => ?_)
  refine J.alloc 4 rfl zero24 [.int .u64 0, .int .u64 0, .int .u64 0, .int .u64 0] rfl rfl (fun g4 hg4 => ?_)
  refine J.end ?_
  refine X.then ?_
  refine T.seq ?_
  refine T.text [.l, .l, .l] rfl ?_
  refine J.loadN (k := .l) trivial 2 rfl rfl agg24 (wc x0) rfl rfl rfl ?_
  refine J.call0 (k := .l) trivial fok70 rfl rfl (fun w hw => Rk.upTo w _ 256 (by omega)) ?_
  refine J.assign rfl rfl ?_
  refine J.end ?_
  refine X.then ?_
  refine T.seq ?_
  refine T.text [.l, .l, .l, .l] rfl ?_
  refine J.loadN (k := .l) trivial 3 rfl rfl agg24 (wc x1) rfl rfl rfl ?_
  refine J.call0 (k := .l) trivial fok71 rfl rfl (fun w hw => Rk.bits w _) ?_
  refine J.alloc 6 rfl zero256 (rowN .i64 (List.replicate 256 0)) rfl rfl (fun g6 hg6 => ?_)
  refine J.store 6 rfl rfl rfl rfl (rowN .i64 (bitsL x1 256)) rfl (by rw [rowN_length, bitsL_length]; exact sz60) (by rw [rowN_length, bitsL_length]; exact Nat.le_refl _) (by first | exact rowN_one _ _ | (simp; done) | (intro u hu; simp at hu; subst hu; rfl) | (intro u hu; simp at hu; rcases hu with rfl | rfl <;> rfl)) (by rw [rowN_length, bitsL_length]; decide) trivial (rowN .i64 (bitsL x1 256)) (put_whole _ _ (by rw [rowN_length, rowN_length, List.length_replicate, bitsL_length])) ?_
  refine J.end ?_
  refine X.then ?_
  refine T.seq ?_
  refine T.text [.l] rfl ?_
  refine J.alloc 7 rfl zero256 (rowN .i64 (List.replicate 256 0)) rfl rfl (fun g7 hg7 => ?_)
  refine J.end ?_
  refine X.then ?_
  refine T.seq ?_
  refine T.seq ?_
  refine T.text [.l, .l] rfl ?_
  refine J.move rfl rfl ?_
  refine J.assign rfl rfl ?_
  refine J.end ?_
  refine X.then ?_
  refine T.block ?_
  refine T.loop (ι := Nat × List Nat) (fun ((i, ys) : Nat × List Nat) => (min 256 (x0 % 2 ^ 256)) ≤ i ∧ i ≤ 256 ∧ ys.length = 256 ∧ ∀ q, q < i → ys.getD q 0 = if (min 256 (x0 % 2 ^ 256)) ≤ q then x1 / 2 ^ (q - (min 256 (x0 % 2 ^ 256))) % 2 else 0) (fun ((i, ys) : Nat × List Nat) => [(0, W x0), (1, W x1), (2, .pointer (some ⟨g2, 0, none⟩)), (3, .pointer (some ⟨g3, 0, none⟩)), (4, .pointer (some ⟨g4, 0, none⟩)), (9, W x0), (10, .int .i64 ((min 256 (x0 % 2 ^ 256) : Nat) : Int)), (5, .int .i64 ((min 256 (x0 % 2 ^ 256) : Nat) : Int)), (11, W x1), (6, .pointer (some ⟨g6, 0, none⟩)), (7, .pointer (some ⟨g7, 0, none⟩)), (13, .int .i64 ((min 256 (x0 % 2 ^ 256) : Nat) : Int)), (8, .int .i64 (i : Int))]) (fun ((i, ys) : Nat × List Nat) => [(2, ⟨some g2, 24, (wc x0)⟩), (3, ⟨some g3, 24, (wc x1)⟩), (4, ⟨some g4, 24, [.int .u64 0, .int .u64 0, .int .u64 0, .int .u64 0]⟩), (6, ⟨some g6, 60, (rowN .i64 (bitsL x1 256))⟩), (7, ⟨some g7, 60, rowN .i64 ys⟩)]) (fun ((i, ys) : Nat × List Nat) => 256 - i) ⟨(min 256 (x0 % 2 ^ 256)), (List.replicate 256 0)⟩ ⟨Nat.le_refl _, by omega, List.length_replicate, fun q hq => by rw [if_neg (by omega)]; exact getD_replicate0 _ _⟩ (by repeat (first | exact Sub.nil _ | refine Sub.cons (by first | rfl | (rw [dgs_zero]; rfl) | (rw [List.drop_length]; rfl) | (simp; done) | (congr 2; omega) | (congr 3; omega)) ?_)) (by repeat (first | exact Sub.nil _ | refine Sub.cons (by first | rfl | (rw [dgs_zero]; rfl) | (rw [List.drop_length]; rfl) | (simp; done) | (congr 2; omega) | (congr 3; omega)) ?_)) ?_
  rintro ⟨i, ys⟩ ⟨hk, hi, hl, hy⟩
  try dsimp only at *
  refine T.seq ?_
  refine T.seq ?_
  refine T.text [.l, .l] rfl ?_
  refine J.move rfl rfl ?_
  refine J.lss rfl rfl rfl rfl ?_
  refine J.end ?_
  refine X.then ?_
  refine T.cond_dec rfl (fun h1 => ?_) (fun h1 => ?_)
  · skip
    refine T.skip ?_
    refine X.then ?_
    refine T.seq ?_
    refine T.block ?_
    refine T.text [.l, .l, .l, .l, .l, .l, .l, .l] rfl ?_
    refine J.move rfl rfl ?_
    refine J.move rfl rfl ?_
    refine J.move rfl rfl ?_
    refine J.sub' rfl rfl rfl (by first | exact sub_nat _ _ (by omega) | exact i64_ok _ (by omega) | exact rfl) ?_
    refine J.indexArr arr60 rfl rfl (by omega) (by omega) (by first | exact Int.toNat_natCast _ | rfl) rfl ?_
    refine J.load1 (k := .l) trivial 6 rfl rfl one3 (by exact rowN_get0 _ _ _ (by rw [bitsL_length]; omega)) rfl ?_
    refine J.as 23 (.int .i64 ((x1 / 2 ^ (i - (min 256 (x0 % 2 ^ 256))) % 2 : Nat) : Int)) rfl (by rw [bitsL_get _ _ _ (by omega)]) ?_
    refine J.indexArr arr60 rfl rfl (by omega) (by omega) (by first | exact Int.toNat_natCast _ | rfl) rfl ?_
    refine J.store 7 rfl rfl rfl rfl [.int .i64 ((x1 / 2 ^ (i - (min 256 (x0 % 2 ^ 256))) % 2 : Nat) : Int)] rfl sz3 (by rw [rowN_length, hl]; show _ + 1 ≤ 256; omega) (by first | exact rowN_one _ _ | (simp; done) | (intro u hu; simp at hu; subst hu; rfl) | (intro u hu; simp at hu; rcases hu with rfl | rfl <;> rfl)) (by first | decide | exact Nat.zero_lt_succ _ | simp) trivial (rowN .i64 (ys.set i (x1 / 2 ^ (i - (min 256 (x0 % 2 ^ 256))) % 2))) (by rw [Nat.zero_add, Nat.mul_one]; exact putN' _ _ _ _ (by omega)) ?_
    refine J.end ?_
    refine X.inBlock (X.then ?_)
    refine T.text [.l, .l, .l] rfl ?_
    refine J.move rfl rfl ?_
    refine J.add rfl rfl rfl (by first | exact add_nat _ 1 (by omega) | exact i64_ok _ (by omega) | exact rfl) ?_
    refine J.assign rfl rfl ?_
    refine J.end ?_
    exact X.round ⟨(i + 1), (ys.set i (x1 / 2 ^ (i - (min 256 (x0 % 2 ^ 256))) % 2))⟩ ⟨by omega, by omega, by simp [hl], set_bits (f := fun q => if (min 256 (x0 % 2 ^ 256)) ≤ q then x1 / 2 ^ (q - (min 256 (x0 % 2 ^ 256))) % 2 else 0) hl (by omega) hy (if_pos (by omega)).symm⟩ (by first | omega | (dsimp only; omega)) (by repeat (first | exact Sub.nil _ | refine Sub.cons (by first | rfl | (rw [dgs_zero]; rfl) | (rw [List.drop_length]; rfl) | (simp; done) | (congr 2; omega) | (congr 3; omega)) ?_)) (by repeat (first | exact Sub.nil _ | refine Sub.cons (by first | rfl | (rw [dgs_zero]; rfl) | (rw [List.drop_length]; rfl) | (simp; done) | (congr 2; omega) | (congr 3; omega)) ?_))
  · obtain rfl : i = 256 := by omega
    have hdq := dq_of (f := fun q => if (min 256 (x0 % 2 ^ 256)) ≤ q then x1 / 2 ^ (q - (min 256 (x0 % 2 ^ 256))) % 2 else 0) hl hy (fun q => by split; exact bit_lt _ _; exact Nat.zero_le _)
    have hof := ofB_list (f := fun q => if (min 256 (x0 % 2 ^ 256)) ≤ q then x1 / 2 ^ (q - (min 256 (x0 % 2 ^ 256))) % 2 else 0) hl hy
    refine T.exit ?_
    refine X.then_exit (X.then_exit (X.inBlock_eq (X.then ?_)))
    refine T.seq ?_
    refine T.text [.l, .l, .l] rfl ?_
    refine J.loadN (k := .l) trivial 7 rfl rfl agg60 (rowN .i64 ys) (by rw [rowN_length, hl]) (by rw [List.drop_zero]; exact List.take_of_length_le (by rw [rowN_length, hl]; omega)) rfl ?_
    refine J.call0 (k := .l) trivial fok72 rfl rfl (fun w hw => Rk.joined w ys hl hdq) ?_
    refine J.store 4 rfl rfl rfl rfl (wc (vq 2 ys)) rfl sz24 (by first | decide | exact Nat.le_refl _ | exact Nat.le_of_ble_eq_true rfl | (simp [rowN]; done) | (simp [rowN]; omega)) (by first | exact rowN_one _ _ | (simp; done) | (intro u hu; simp at hu; subst hu; rfl) | (intro u hu; simp at hu; rcases hu with rfl | rfl <;> rfl)) (by first | decide | exact Nat.zero_lt_succ _ | simp) trivial (wc (vq 2 ys)) rfl ?_
    refine J.end ?_
    refine X.then ?_
    refine T.ret ?_
    exact X.ret1 rfl (RV.agg 4 rfl rfl agg24 (wc (vq 2 ys)) (by rfl) (by rfl) rfl) (fun w' hw' => ⟨retW (by rw [hof, ofB_shl x0 x1 _ rfl, Nat.mod_mod]), hw'.sub (Sub.nil _)⟩)

theorem SignExtend (w : World) (x0 : Nat) (x1 : Nat) :
    Calls Tryz.prog 19 [W x0, W x1].toArray w fun e w' => e = .returned (W (sxN x0 x1)) ∧ WS w [] [] w' := by
  refine calls_of_T [] 31 [] Tryz.func19 rfl Tryz.ntmps19 (by simp) (WS.refl _ _) ?_
  refine T.seq ?_
  refine T.text [.l, .l, .l] rfl ?_
  refine J.box 2 rfl rfl (wc x0) rfl rfl (fun g2 hg2 => ?_)
  refine J.box 3 rfl rfl (wc x1) rfl rfl (fun g3 hg3 => ?_)
  refine J.alloc 4 rfl zero24 [.int .u64 0, .int .u64 0, .int .u64 0, .int .u64 0] rfl rfl (fun g4 hg4 => ?_)
  refine J.end ?_
  refine X.then ?_
  refine T.seq ?_
  refine T.text [.l, .l, .l] rfl ?_
  refine J.loadN (k := .l) trivial 2 rfl rfl agg24 (wc x0) rfl rfl rfl ?_
  refine J.call0 (k := .l) trivial fok70 rfl rfl (fun w hw => Rk.upTo w _ 31 (by omega)) ?_
  refine J.assign rfl rfl ?_
  refine J.end ?_
  refine X.then ?_
  refine T.seq ?_
  refine T.seq ?_
  refine T.text [.l, .l] rfl ?_
  refine J.move rfl rfl ?_
  refine J.eql rfl rfl rfl rfl ?_
  refine J.end ?_
  refine X.then ?_
  refine T.cond_dec rfl (fun h1 => ?_) (fun h1 => ?_)
  · skip
    refine T.seq ?_
    refine T.text [.l, .l] rfl ?_
    refine J.loadN (k := .l) trivial 3 rfl rfl agg24 (wc x1) rfl rfl rfl ?_
    refine J.store 4 rfl rfl rfl rfl (wc x1) rfl sz24 (by first | decide | exact Nat.le_refl _ | exact Nat.le_of_ble_eq_true rfl | (simp [rowN]; done) | (simp [rowN]; omega)) (by first | exact rowN_one _ _ | (simp; done) | (intro u hu; simp at hu; subst hu; rfl) | (intro u hu; simp at hu; rcases hu with rfl | rfl <;> rfl)) (by first | decide | exact Nat.zero_lt_succ _ | simp) trivial (wc x1) rfl ?_
    refine J.end ?_
    refine X.then ?_
    refine T.ret ?_
    refine X.then_ret ?_
    exact X.ret1 rfl (RV.agg 4 rfl rfl agg24 (wc x1) (by rfl) (by rfl) rfl) (fun w' hw' => ⟨retW (by unfold sxN; rw [if_neg (by omega)]), hw'.sub (Sub.nil _)⟩)
  · have hn : (min 31 (x0 % 2 ^ 256)) < 31 := by omega
    refine T.skip ?_
    refine X.then ?_
    refine T.seq ?_
    refine T.text [.l, .l, .l, .l] rfl ?_
    refine J.loadN (k := .l) trivial 3 rfl rfl agg24 (wc x1) rfl rfl rfl ?_
    refine J.call0 (k := .l) trivial fok71 rfl rfl (fun w hw => Rk.bits w _) ?_
    refine J.alloc 6 rfl zero256 (rowN .i64 (List.replicate 256 0)) rfl rfl (fun g6 hg6 => ?_)
    refine J.store 6 rfl rfl rfl rfl (rowN .i64 (bitsL x1 256)) rfl (by rw [rowN_length, bitsL_length]; exact sz60) (by rw [rowN_length, bitsL_length]; exact Nat.le_refl _) (by first | exact rowN_one _ _ | (simp; done) | (intro u hu; simp at hu; subst hu; rfl) | (intro u hu; simp at hu; rcases hu with rfl | rfl <;> rfl)) (by rw [rowN_length, bitsL_length]; decide) trivial (rowN .i64 (bitsL x1 256)) (put_whole _ _ (by rw [rowN_length, rowN_length, List.length_replicate, bitsL_length])) ?_
    refine J.end ?_
    refine X.then ?_
    refine T.seq ?_
    refine T.seq ?_
    refine T.text [.l, .l, .l, .l] rfl ?_
    refine J.move rfl rfl ?_
    refine J.mul rfl rfl rfl (by first | exact mul_nat 8 _ (by omega) | exact i64_ok _ (by omega) | exact rfl) ?_
    refine J.add rfl rfl rfl (by first | exact add_nat _ 8 (by omega) | exact i64_ok _ (by omega) | exact rfl) ?_
    refine J.assign rfl rfl ?_
    refine J.end ?_
    refine X.then ?_
    refine T.block ?_
    refine T.loop (ι := Nat × List Nat) (fun ((i, ys) : Nat × List Nat) => 8 * (min 31 (x0 % 2 ^ 256)) + 8 ≤ i ∧ i ≤ 256 ∧ ys.length = 256 ∧ ∀ q, q < i → ys.getD q 0 = if q < 8 * (min 31 (x0 % 2 ^ 256)) + 8 then x1 / 2 ^ q % 2 else x1 / 2 ^ (8 * (min 31 (x0 % 2 ^ 256)) + 7) % 2) (fun ((i, ys) : Nat × List Nat) => [(0, W x0), (1, W x1), (2, .pointer (some ⟨g2, 0, none⟩)), (3, .pointer (some ⟨g3, 0, none⟩)), (4, .pointer (some ⟨g4, 0, none⟩)), (8, W x0), (9, .int .i64 ((min 31 (x0 % 2 ^ 256) : Nat) : Int)), (5, .int .i64 ((min 31 (x0 % 2 ^ 256) : Nat) : Int)), (10, .int .i64 ((min 31 (x0 % 2 ^ 256) : Nat) : Int)), (13, W x1), (6, .pointer (some ⟨g6, 0, none⟩)), (15, .int .i64 ((min 31 (x0 % 2 ^ 256) : Nat) : Int)), (7, .int .i64 (i : Int))]) (fun ((i, ys) : Nat × List Nat) => [(2, ⟨some g2, 24, (wc x0)⟩), (3, ⟨some g3, 24, (wc x1)⟩), (4, ⟨some g4, 24, [.int .u64 0, .int .u64 0, .int .u64 0, .int .u64 0]⟩), (6, ⟨some g6, 60, rowN .i64 ys⟩)]) (fun ((i, ys) : Nat × List Nat) => 256 - i) ⟨(8 * (min 31 (x0 % 2 ^ 256)) + 8), (bitsL x1 256)⟩ ⟨Nat.le_refl _, by omega, bitsL_length _ _, fun q hq => by rw [if_pos hq]; exact bitsL_get _ _ _ (by omega)⟩ (by repeat (first | exact Sub.nil _ | refine Sub.cons (by first | rfl | (rw [dgs_zero]; rfl) | (rw [List.drop_length]; rfl) | (simp; done) | (congr 2; omega) | (congr 3; omega)) ?_)) (by repeat (first | exact Sub.nil _ | refine Sub.cons (by first | rfl | (rw [dgs_zero]; rfl) | (rw [List.drop_length]; rfl) | (simp; done) | (congr 2; omega) | (congr 3; omega)) ?_)) ?_
    rintro ⟨i, ys⟩ ⟨hk, hi, hl, hy⟩
    try dsimp only at *
    refine T.seq ?_
    refine T.seq ?_
    refine T.text [.l, .l] rfl ?_
    refine J.move rfl rfl ?_
    refine J.lss rfl rfl rfl rfl ?_
    refine J.end ?_
    refine X.then ?_
    refine T.cond_dec rfl (fun h2 => ?_) (fun h2 => ?_)
    · have h7 := hy (8 * (min 31 (x0 % 2 ^ 256)) + 7) (by omega)
      rw [if_pos (by omega)] at h7
      refine T.skip ?_
      refine X.then ?_
      refine T.seq ?_
      refine T.block ?_
      refine T.text [.l, .l, .l, .l, .l, .l, .l, .l] rfl ?_
      refine J.move rfl rfl ?_
      refine J.move rfl rfl ?_
      refine J.mul rfl rfl rfl (by first | exact mul_nat 8 _ (by omega) | exact i64_ok _ (by omega) | exact rfl) ?_
      refine J.add rfl rfl rfl (by first | exact add_nat _ 7 (by omega) | exact i64_ok _ (by omega) | exact rfl) ?_
      refine J.indexArr arr60 rfl rfl (by omega) (by omega) (by first | exact Int.toNat_natCast _ | rfl) rfl ?_
      refine J.load1 (k := .l) trivial 6 rfl rfl one3 (by exact rowN_get0 _ _ _ (by omega)) rfl ?_
      refine J.as 27 (.int .i64 ((x1 / 2 ^ (8 * (min 31 (x0 % 2 ^ 256)) + 7) % 2 : Nat) : Int)) rfl (by rw [h7]) ?_
      refine J.indexArr arr60 rfl rfl (by omega) (by omega) (by first | exact Int.toNat_natCast _ | rfl) rfl ?_
      refine J.store 6 rfl rfl rfl rfl [.int .i64 ((x1 / 2 ^ (8 * (min 31 (x0 % 2 ^ 256)) + 7) % 2 : Nat) : Int)] rfl sz3 (by rw [rowN_length, hl]; show _ + 1 ≤ 256; omega) (by first | exact rowN_one _ _ | (simp; done) | (intro u hu; simp at hu; subst hu; rfl) | (intro u hu; simp at hu; rcases hu with rfl | rfl <;> rfl)) (by first | decide | exact Nat.zero_lt_succ _ | simp) trivial (rowN .i64 (ys.set i (x1 / 2 ^ (8 * (min 31 (x0 % 2 ^ 256)) + 7) % 2))) (by rw [Nat.zero_add, Nat.mul_one]; exact putN' _ _ _ _ (by omega)) ?_
      refine J.end ?_
      refine X.inBlock (X.then ?_)
      refine T.text [.l, .l, .l] rfl ?_
      refine J.move rfl rfl ?_
      refine J.add rfl rfl rfl (by first | exact add_nat _ 1 (by omega) | exact i64_ok _ (by omega) | exact rfl) ?_
      refine J.assign rfl rfl ?_
      refine J.end ?_
      exact X.round ⟨(i + 1), (ys.set i (x1 / 2 ^ (8 * (min 31 (x0 % 2 ^ 256)) + 7) % 2))⟩ ⟨by omega, by omega, by simp [hl], set_bits (f := fun q => if q < 8 * (min 31 (x0 % 2 ^ 256)) + 8 then x1 / 2 ^ q % 2 else x1 / 2 ^ (8 * (min 31 (x0 % 2 ^ 256)) + 7) % 2) hl (by omega) hy (if_neg (by omega)).symm⟩ (by first | omega | (dsimp only; omega)) (by repeat (first | exact Sub.nil _ | refine Sub.cons (by first | rfl | (rw [dgs_zero]; rfl) | (rw [List.drop_length]; rfl) | (simp; done) | (congr 2; omega) | (congr 3; omega)) ?_)) (by repeat (first | exact Sub.nil _ | refine Sub.cons (by first | rfl | (rw [dgs_zero]; rfl) | (rw [List.drop_length]; rfl) | (simp; done) | (congr 2; omega) | (congr 3; omega)) ?_))
    · obtain rfl : i = 256 := by omega
      have hdq := dq_of (f := fun q => if q < 8 * (min 31 (x0 % 2 ^ 256)) + 8 then x1 / 2 ^ q % 2 else x1 / 2 ^ (8 * (min 31 (x0 % 2 ^ 256)) + 7) % 2) hl hy (fun q => by split <;> exact bit_lt _ _)
      have hof := ofB_list (f := fun q => if q < 8 * (min 31 (x0 % 2 ^ 256)) + 8 then x1 / 2 ^ q % 2 else x1 / 2 ^ (8 * (min 31 (x0 % 2 ^ 256)) + 7) % 2) hl hy
      refine T.exit ?_
      refine X.then_exit (X.then_exit (X.inBlock_eq (X.then ?_)))
      refine T.seq ?_
      refine T.text [.l, .l, .l] rfl ?_
      refine J.loadN (k := .l) trivial 6 rfl rfl agg60 (rowN .i64 ys) (by rw [rowN_length, hl]) (by rw [List.drop_zero]; exact List.take_of_length_le (by rw [rowN_length, hl]; omega)) rfl ?_
      refine J.call0 (k := .l) trivial fok72 rfl rfl (fun w hw => Rk.joined w ys hl hdq) ?_
      refine J.store 4 rfl rfl rfl rfl (wc (vq 2 ys)) rfl sz24 (by first | decide | exact Nat.le_refl _ | exact Nat.le_of_ble_eq_true rfl | (simp [rowN]; done) | (simp [rowN]; omega)) (by first | exact rowN_one _ _ | (simp; done) | (intro u hu; simp at hu; subst hu; rfl) | (intro u hu; simp at hu; rcases hu with rfl | rfl <;> rfl)) (by first | decide | exact Nat.zero_lt_succ _ | simp) trivial (wc (vq 2 ys)) rfl ?_
      refine J.end ?_
      refine X.then ?_
      refine T.ret ?_
      exact X.ret1 rfl (RV.agg 4 rfl rfl agg24 (wc (vq 2 ys)) (by rfl) (by rfl) rfl) (fun w' hw' => ⟨retW (by rw [hof, ofB_sx x0 x1 _ (by omega) hn, Nat.mod_mod]), hw'.sub (Sub.nil _)⟩)

theorem zeros (w : World) (x0 : Nat) :
    Calls Tryz.prog 105 [W x0].toArray w fun e w' => e = .returned (.int .i64 ((256 - bitLen (x0 % 2 ^ 256) : Nat) : Int)) ∧ WS w [] [] w' := by
  refine calls_of_T [] 19 [] Tryz.func105 rfl Tryz.ntmps105 (by simp) (WS.refl _ _) ?_
  refine T.seq ?_
  refine T.text [.l, .l] rfl ?_
  refine J.box 1 rfl rfl (wc x0) rfl rfl (fun g1 hg1 => ?_)
  refine J.assign rfl rfl ?_
  refine J.end ?_
  refine X.then ?_
  refine T.seq ?_
  refine T.text [.l, .l, .l, .l] rfl ?_
  refine J.loadN (k := .l) trivial 1 rfl rfl agg24 (wc x0) rfl rfl rfl ?_
  refine J.call0 (k := .l) trivial fok71 rfl rfl (fun w hw => Rk.bits w _) ?_
  refine J.alloc 3 rfl zero256 (rowN .i64 (List.replicate 256 0)) rfl rfl (fun g3 hg3 => ?_)
  refine J.store 3 rfl rfl rfl rfl (rowN .i64 (bitsL x0 256)) rfl (by rw [rowN_length, bitsL_length]; exact sz60) (by rw [rowN_length, bitsL_length]; exact Nat.le_refl _) (by first | exact rowN_one _ _ | (simp; done) | (intro u hu; simp at hu; subst hu; rfl) | (intro u hu; simp at hu; rcases hu with rfl | rfl <;> rfl)) (by rw [rowN_length, bitsL_length]; decide) trivial (rowN .i64 (bitsL x0 256)) (put_whole _ _ (by rw [rowN_length, rowN_length, List.length_replicate, bitsL_length])) ?_
  refine J.end ?_
  refine X.then ?_
  refine T.seq ?_
  refine T.text [.l] rfl ?_
  refine J.assign rfl rfl ?_
  refine J.end ?_
  refine X.then ?_
  refine T.seq ?_
  refine T.block ?_
  refine T.loop (ι := Nat) (fun (n : Nat) => n ≤ 256 ∧ ∀ t, t < n → x0 / 2 ^ (255 - t) % 2 = 0) (fun (n : Nat) => [(0, W x0), (1, .pointer (some ⟨g1, 0, none⟩)), (2, .int .i64 0), (5, W x0), (3, .pointer (some ⟨g3, 0, none⟩)), (4, .int .i64 (n : Int))]) (fun (n : Nat) => [(1, ⟨some g1, 24, (wc x0)⟩), (3, ⟨some g3, 60, (rowN .i64 (bitsL x0 256))⟩)]) (fun (n : Nat) => 256 - n) 0 ⟨Nat.zero_le _, fun t ht => by omega⟩ (by repeat (first | exact Sub.nil _ | refine Sub.cons (by first | rfl | (rw [dgs_zero]; rfl) | (rw [List.drop_length]; rfl) | (simp; done) | (congr 2; omega) | (congr 3; omega)) ?_)) (by repeat (first | exact Sub.nil _ | refine Sub.cons (by first | rfl | (rw [dgs_zero]; rfl) | (rw [List.drop_length]; rfl) | (simp; done) | (congr 2; omega) | (congr 3; omega)) ?_)) ?_
  rintro n ⟨hn, hz⟩
  refine T.seq ?_
  refine T.seq ?_
  refine T.text [.l, .l, .l, .l, .l, .l, .l, .l, .l] rfl ?_
  refine J.move rfl rfl ?_
  refine J.lss rfl rfl rfl rfl ?_
  refine J.move rfl rfl ?_
  refine J.split 9 rfl (fun h1 => ?_) (fun h1 => ?_)
  · skip
    refine J.yes rfl rfl ?_
    refine J.move rfl rfl ?_
    refine J.yes rfl rfl ?_
    refine J.sub' rfl rfl rfl (by first | exact sub_nat 255 _ (by omega) | exact i64_ok _ (by omega) | exact rfl) ?_
    refine J.yes rfl rfl ?_
    refine J.indexArr arr60 rfl rfl (by omega) (by omega) (by first | exact Int.toNat_natCast _ | rfl) rfl ?_
    refine J.yes rfl rfl ?_
    refine J.load1 (k := .l) trivial 3 rfl rfl one3 (by exact rowN_get0 _ _ _ (by rw [bitsL_length]; omega)) rfl ?_
    refine J.as 13 (.int .i64 ((x0 / 2 ^ (255 - n) % 2 : Nat) : Int)) rfl (by rw [bitsL_get _ _ _ (by omega)]) ?_
    refine J.yes rfl rfl ?_
    refine J.eql rfl rfl rfl rfl ?_
    refine J.pick_t rfl rfl rfl ?_
    refine J.end ?_
    refine X.then ?_
    refine T.cond_dec rfl (fun h2 => ?_) (fun h2 => ?_)
    · skip
      refine T.skip ?_
      refine X.then ?_
      refine T.block ?_
      refine T.text [.l, .l, .l] rfl ?_
      refine J.move rfl rfl ?_
      refine J.add rfl rfl rfl (by first | exact add_nat _ 1 (by omega) | exact i64_ok _ (by omega) | exact rfl) ?_
      refine J.assign rfl rfl ?_
      refine J.end ?_
      refine X.inBlock ?_
      exact X.round (n + 1) ⟨by omega, fun t ht => (Nat.lt_or_ge t n).elim (fun h => hz t h) (fun h => by obtain rfl : t = n := (by omega); omega)⟩ (by first | omega | (dsimp only; omega)) (by repeat (first | exact Sub.nil _ | refine Sub.cons (by first | rfl | (rw [dgs_zero]; rfl) | (rw [List.drop_length]; rfl) | (simp; done) | (congr 2; omega) | (congr 3; omega)) ?_)) (by repeat (first | exact Sub.nil _ | refine Sub.cons (by first | rfl | (rw [dgs_zero]; rfl) | (rw [List.drop_length]; rfl) | (simp; done) | (congr 2; omega) | (congr 3; omega)) ?_))
    · skip
      refine T.exit ?_
      refine X.then_exit (X.then_exit (X.inBlock_eq (X.then ?_)))
      refine T.seq ?_
      refine T.text [.l, .l] rfl ?_
      refine J.move rfl rfl ?_
      refine J.assign rfl rfl ?_
      refine J.end ?_
      refine X.then ?_
      refine T.ret ?_
      exact X.ret1 rfl (RV.tmp rfl) (fun w' hw' => ⟨by rw [clz_of hn hz (by first | (intro h; omega) | (intro _; omega))], hw'.sub (Sub.nil _)⟩)
  · skip
    refine J.no rfl rfl rfl rfl ?_
    refine J.no rfl rfl rfl rfl ?_
    refine J.no rfl rfl rfl rfl ?_
    refine J.no rfl rfl rfl rfl ?_
    refine J.no rfl rfl rfl rfl ?_
    refine J.pick_f rfl rfl rfl ?_
    refine J.end ?_
    refine X.then ?_
    refine T.cond_false rfl ?_
    refine T.exit ?_
    refine X.then_exit (X.then_exit (X.inBlock_eq (X.then ?_)))
    refine T.seq ?_
    refine T.text [.l, .l] rfl ?_
    refine J.move rfl rfl ?_
    refine J.assign rfl rfl ?_
    refine J.end ?_
    refine X.then ?_
    refine T.ret ?_
    exact X.ret1 rfl (RV.tmp rfl) (fun w' hw' => ⟨by rw [clz_of hn hz (by first | (intro h; omega) | (intro _; omega))], hw'.sub (Sub.nil _)⟩)
end Go.Proofs.YtegociefcfcihaaGreatDoor.Rl
