/-
  Walks, printed by gen.py: what each function hands back, said of numbers.
  Conditions: those that each theorem bears.
-/
import Derived.Test.YtegociefcfcihaaDoorChecked
import Derived.Test.YtegociefcfcihaaDoorFs
import Derived.Test.YtegociefcfcihaaDoorWa
set_option linter.unusedVariables false
set_option maxRecDepth 20000
namespace Go.Proofs.YtegociefcfcihaaDoor.Wb
open Go Go.Fw

theorem sz39 : SizeT Tryd.prog 39 32 := (by unfold SizeT; kernel_rfl)
theorem zero8 : ZeroT Tryd.prog 67 (.agg (rowN .u64 (lg 0)).toArray) := (by unfold ZeroT; kernel_rfl)
theorem zero24 : ZeroT Tryd.prog 24 (.agg ([.int .u64 0, .int .u64 0, .int .u64 0, .int .u64 0]).toArray) := (by unfold ZeroT; kernel_rfl)
theorem agg24 : AggT Tryd.prog 24 4 := ⟨⟨_, Tryd.underlying24, rfl⟩, by kernel_rfl⟩
theorem fok107 : FnOk Tryd.prog 107 := FnOk.mk' Tryd.func107 (by kernel_rfl) rfl
theorem sz24 : SizeT Tryd.prog 24 4 := (by unfold SizeT; kernel_rfl)
theorem fok111 : FnOk Tryd.prog 111 := FnOk.mk' Tryd.func111 (by kernel_rfl) rfl
theorem zero67 : ZeroT Tryd.prog 67 (.agg ([.int .u64 0, .int .u64 0, .int .u64 0, .int .u64 0, .int .u64 0, .int .u64 0, .int .u64 0, .int .u64 0]).toArray) := (by unfold ZeroT; kernel_rfl)
theorem sz22 : SizeT Tryd.prog 22 1 := (by unfold SizeT; kernel_rfl)
theorem arr24 : ArrT Tryd.prog 24 4 22 1 := ⟨Tryd.underlying24, sz22⟩
theorem one22 : OneT Tryd.prog 22 := ⟨⟨_, Tryd.underlying22, rfl⟩, by kernel_rfl⟩
theorem fok146 : FnOk Tryd.prog 146 := FnOk.mk' Tryd.func146 (by kernel_rfl) rfl
theorem arr67 : ArrT Tryd.prog 67 8 22 1 := ⟨Tryd.underlying67, sz22⟩
theorem agg67 : AggT Tryd.prog 67 8 := ⟨⟨_, Tryd.underlying67, rfl⟩, by kernel_rfl⟩
theorem sz67 : SizeT Tryd.prog 67 8 := (by unfold SizeT; kernel_rfl)
theorem fok114 : FnOk Tryd.prog 114 := FnOk.mk' Tryd.func114 (by kernel_rfl) rfl

theorem Add (w : World) (x0 : Nat) (x1 : Nat) :
    Calls Tryd.prog 23 [W x0, W x1].toArray w fun e w' => e = .returned (W (x0 + x1)) ∧ WS w [] [] w' := by
  refine calls_of_T [] 14 [] Tryd.func23 rfl Tryd.ntmps23 (by simp) (WS.refl _ _) ?_
  refine T.seq ?_
  refine T.text [.l, .l, .l] rfl ?_
  refine J.box 2 rfl rfl (wc x0) rfl rfl (fun g2 hg2 => ?_)
  refine J.box 3 rfl rfl (wc x1) rfl rfl (fun g3 hg3 => ?_)
  refine J.alloc 4 rfl zero24 [.int .u64 0, .int .u64 0, .int .u64 0, .int .u64 0] rfl rfl (fun g4 hg4 => ?_)
  refine J.end ?_
  refine X.then ?_
  refine T.seq ?_
  refine T.text [.l, .l, .l, .l, .l, .l, .l, .l, .l] rfl ?_
  refine J.loadN (k := .l) trivial 2 rfl rfl agg24 (wc x0) rfl rfl rfl ?_
  refine J.loadN (k := .l) trivial 3 rfl rfl agg24 (wc x1) rfl rfl rfl ?_
  refine J.call0 (k := .l) trivial fok107 rfl rfl (fun w hw => Wa.plus w _ _) ?_
  refine J.move rfl rfl ?_
  refine J.extract rfl rfl rfl ?_
  refine J.extract rfl rfl rfl ?_
  refine J.alloc 5 rfl zero24 [.int .u64 0, .int .u64 0, .int .u64 0, .int .u64 0] rfl rfl (fun g5 hg5 => ?_)
  refine J.store 5 rfl rfl rfl rfl (wc (x0 + x1)) rfl sz24 (by first | decide | exact Nat.le_refl _ | exact Nat.le_of_ble_eq_true rfl | (simp [rowN]; done) | (simp [rowN]; omega)) (by first | exact rowN_one _ _ | (simp; done) | (intro u hu; simp at hu; subst hu; rfl) | (intro u hu; simp at hu; rcases hu with rfl | rfl <;> rfl)) (by first | decide | exact Nat.zero_lt_succ _ | simp) trivial (wc (x0 + x1)) rfl ?_
  refine J.assign rfl rfl ?_
  refine J.end ?_
  refine X.then ?_
  refine T.seq ?_
  refine T.text [.l, .l] rfl ?_
  refine J.loadN (k := .l) trivial 5 rfl rfl agg24 (wc (x0 + x1)) rfl rfl rfl ?_
  refine J.store 4 rfl rfl rfl rfl (wc (x0 + x1)) rfl sz24 (by first | decide | exact Nat.le_refl _ | exact Nat.le_of_ble_eq_true rfl | (simp [rowN]; done) | (simp [rowN]; omega)) (by first | exact rowN_one _ _ | (simp; done) | (intro u hu; simp at hu; subst hu; rfl) | (intro u hu; simp at hu; rcases hu with rfl | rfl <;> rfl)) (by first | decide | exact Nat.zero_lt_succ _ | simp) trivial (wc (x0 + x1)) rfl ?_
  refine J.end ?_
  refine X.then ?_
  refine T.ret ?_
  exact X.ret1 rfl (RV.agg 4 rfl rfl agg24 (wc (x0 + x1)) (by rfl) (by rfl) rfl) (fun w' hw' => ⟨rfl, hw'.sub (Sub.nil _)⟩)

theorem Sub (w : World) (x0 : Nat) (x1 : Nat) :
    Calls Tryd.prog 25 [W x0, W x1].toArray w fun e w' => e = .returned (W (dif x0 x1)) ∧ WS w [] [] w' := by
  refine calls_of_T [] 14 [] Tryd.func25 rfl Tryd.ntmps25 (by simp) (WS.refl _ _) ?_
  refine T.seq ?_
  refine T.text [.l, .l, .l] rfl ?_
  refine J.box 2 rfl rfl (wc x0) rfl rfl (fun g2 hg2 => ?_)
  refine J.box 3 rfl rfl (wc x1) rfl rfl (fun g3 hg3 => ?_)
  refine J.alloc 4 rfl zero24 [.int .u64 0, .int .u64 0, .int .u64 0, .int .u64 0] rfl rfl (fun g4 hg4 => ?_)
  refine J.end ?_
  refine X.then ?_
  refine T.seq ?_
  refine T.text [.l, .l, .l, .l, .l, .l, .l, .l, .l] rfl ?_
  refine J.loadN (k := .l) trivial 2 rfl rfl agg24 (wc x0) rfl rfl rfl ?_
  refine J.loadN (k := .l) trivial 3 rfl rfl agg24 (wc x1) rfl rfl rfl ?_
  refine J.call0 (k := .l) trivial fok111 rfl rfl (fun w hw => Wa.minus w _ _) ?_
  refine J.move rfl rfl ?_
  refine J.extract rfl rfl rfl ?_
  refine J.extract rfl rfl rfl ?_
  refine J.alloc 5 rfl zero24 [.int .u64 0, .int .u64 0, .int .u64 0, .int .u64 0] rfl rfl (fun g5 hg5 => ?_)
  refine J.store 5 rfl rfl rfl rfl (wc (dif x0 x1)) rfl sz24 (by first | decide | exact Nat.le_refl _ | exact Nat.le_of_ble_eq_true rfl | (simp [rowN]; done) | (simp [rowN]; omega)) (by first | exact rowN_one _ _ | (simp; done) | (intro u hu; simp at hu; subst hu; rfl) | (intro u hu; simp at hu; rcases hu with rfl | rfl <;> rfl)) (by first | decide | exact Nat.zero_lt_succ _ | simp) trivial (wc (dif x0 x1)) rfl ?_
  refine J.assign rfl rfl ?_
  refine J.end ?_
  refine X.then ?_
  refine T.seq ?_
  refine T.text [.l, .l] rfl ?_
  refine J.loadN (k := .l) trivial 5 rfl rfl agg24 (wc (dif x0 x1)) rfl rfl rfl ?_
  refine J.store 4 rfl rfl rfl rfl (wc (dif x0 x1)) rfl sz24 (by first | decide | exact Nat.le_refl _ | exact Nat.le_of_ble_eq_true rfl | (simp [rowN]; done) | (simp [rowN]; omega)) (by first | exact rowN_one _ _ | (simp; done) | (intro u hu; simp at hu; subst hu; rfl) | (intro u hu; simp at hu; rcases hu with rfl | rfl <;> rfl)) (by first | decide | exact Nat.zero_lt_succ _ | simp) trivial (wc (dif x0 x1)) rfl ?_
  refine J.end ?_
  refine X.then ?_
  refine T.ret ?_
  exact X.ret1 rfl (RV.agg 4 rfl rfl agg24 (wc (dif x0 x1)) (by rfl) (by rfl) rfl) (fun w' hw' => ⟨rfl, hw'.sub (Sub.nil _)⟩)

theorem Mul64 (w : World) (x y : Nat) (hx : x < 18446744073709551616) (hy : y < 18446744073709551616) :
    Calls Tryd.prog 146 [.int .u64 (x : Int), .int .u64 (y : Int)].toArray w fun e w' => e = .returned (.tuple #[.int .u64 ((x * y / 18446744073709551616 : Nat) : Int), .int .u64 ((x * y % 18446744073709551616 : Nat) : Int)]) ∧ WS w [] [] w' := by
  obtain ⟨h1, h2, h3, h4, h5, h6⟩ := mul64 x y hx hy
  refine calls_of_T [] 51 [] Tryd.func146 rfl Tryd.ntmps146 (by simp) (WS.refl _ _) ?_
  refine T.seq ?_
  refine T.text [.l, .l] rfl ?_
  refine J.assign rfl rfl ?_
  refine J.assign rfl rfl ?_
  refine J.end ?_
  refine X.then ?_
  refine T.seq ?_
  refine T.text [.l, .l, .l] rfl ?_
  refine J.move rfl rfl ?_
  refine J.band rfl rfl rfl (by exact u64_and32 _ (by omega)) ?_
  refine J.assign rfl rfl ?_
  refine J.end ?_
  refine X.then ?_
  refine T.seq ?_
  refine T.text [.l, .l, .l] rfl ?_
  refine J.move rfl rfl ?_
  refine J.shr rfl rfl rfl (by decide) (by exact shr32_nat _) ?_
  refine J.assign rfl rfl ?_
  refine J.end ?_
  refine X.then ?_
  refine T.seq ?_
  refine T.text [.l, .l, .l] rfl ?_
  refine J.move rfl rfl ?_
  refine J.band rfl rfl rfl (by exact u64_and32 _ (by omega)) ?_
  refine J.assign rfl rfl ?_
  refine J.end ?_
  refine X.then ?_
  refine T.seq ?_
  refine T.text [.l, .l, .l] rfl ?_
  refine J.move rfl rfl ?_
  refine J.shr rfl rfl rfl (by decide) (by exact shr32_nat _) ?_
  refine J.assign rfl rfl ?_
  refine J.end ?_
  refine X.then ?_
  refine T.seq ?_
  refine T.text [.l, .l, .l, .l] rfl ?_
  refine J.move rfl rfl ?_
  refine J.move rfl rfl ?_
  refine J.mul rfl rfl rfl (by exact mulu_nat _ _ (Nat.le_trans h1 (by omega))) ?_
  refine J.assign rfl rfl ?_
  refine J.end ?_
  refine X.then ?_
  refine T.seq ?_
  refine T.text [.l, .l, .l, .l, .l, .l, .l] rfl ?_
  refine J.move rfl rfl ?_
  refine J.move rfl rfl ?_
  refine J.mul rfl rfl rfl (by exact mulu_nat _ _ (Nat.le_trans h2 (by omega))) ?_
  refine J.move rfl rfl ?_
  refine J.shr rfl rfl rfl (by decide) (by exact shr32_nat _) ?_
  refine J.add rfl rfl rfl (by first | exact addu_nat _ _ (by omega) | exact u64_ok _ (by omega) | exact u64_wrap _) ?_
  refine J.assign rfl rfl ?_
  refine J.end ?_
  refine X.then ?_
  refine T.seq ?_
  refine T.text [.l, .l, .l] rfl ?_
  refine J.move rfl rfl ?_
  refine J.band rfl rfl rfl (by exact u64_and32 _ (by omega)) ?_
  refine J.assign rfl rfl ?_
  refine J.end ?_
  refine X.then ?_
  refine T.seq ?_
  refine T.text [.l, .l, .l] rfl ?_
  refine J.move rfl rfl ?_
  refine J.shr rfl rfl rfl (by decide) (by exact shr32_nat _) ?_
  refine J.assign rfl rfl ?_
  refine J.end ?_
  refine X.then ?_
  refine T.seq ?_
  refine T.text [.l, .l, .l, .l, .l, .l] rfl ?_
  refine J.move rfl rfl ?_
  refine J.move rfl rfl ?_
  refine J.move rfl rfl ?_
  refine J.mul rfl rfl rfl (by exact mulu_nat _ _ (Nat.le_trans h3 (by omega))) ?_
  refine J.add rfl rfl rfl (by first | exact addu_nat _ _ (by omega) | exact u64_ok _ (by omega) | exact u64_wrap _) ?_
  refine J.assign rfl rfl ?_
  refine J.end ?_
  refine X.then ?_
  refine T.seq ?_
  refine T.text [.l, .l, .l, .l, .l, .l, .l, .l, .l] rfl ?_
  refine J.move rfl rfl ?_
  refine J.move rfl rfl ?_
  refine J.mul rfl rfl rfl (by exact mulu_nat _ _ (Nat.le_trans h4 (by omega))) ?_
  refine J.move rfl rfl ?_
  refine J.add rfl rfl rfl (by first | exact addu_nat _ _ (by omega) | exact u64_ok _ (by omega) | exact u64_wrap _) ?_
  refine J.move rfl rfl ?_
  refine J.shr rfl rfl rfl (by decide) (by exact shr32_nat _) ?_
  refine J.add rfl rfl rfl (by first | exact addu_nat _ _ (by omega) | exact u64_ok _ (by omega) | exact u64_wrap _) ?_
  refine J.as 47 (.int .u64 ((x * y / 18446744073709551616 : Nat) : Int)) rfl (by rw [← h5]) ?_
  refine J.assign rfl rfl ?_
  refine J.end ?_
  refine X.then ?_
  refine T.seq ?_
  refine T.text [.l, .l, .l, .l] rfl ?_
  refine J.move rfl rfl ?_
  refine J.move rfl rfl ?_
  refine J.mul rfl rfl rfl (by exact mulw_nat _ _) ?_
  refine J.assign rfl rfl ?_
  refine J.end ?_
  refine X.then ?_
  refine T.ret ?_
  exact X.ret2 rfl (RV.tmp rfl) (RV.tmp rfl) (fun w' hw' => ⟨rfl, hw'.sub (Sub.nil _)⟩)

set_option maxHeartbeats 1000000 in
theorem times (w : World) (x0 : Nat) (x1 : Nat) :
    Calls Tryd.prog 114 [W x0, W x1].toArray w fun e w' => e = .returned (.agg (lc ((x0 % 2 ^ 256) * (x1 % 2 ^ 256))).toArray) ∧ WS w [] [] w' := by
  refine calls_of_T [] 62 [] Tryd.func114 rfl Tryd.ntmps114 (by simp) (WS.refl _ _) ?_
  refine T.seq ?_
  refine T.text [.l, .l, .l] rfl ?_
  refine J.box 2 rfl rfl (wc x0) rfl rfl (fun g2 hg2 => ?_)
  refine J.box 3 rfl rfl (wc x1) rfl rfl (fun g3 hg3 => ?_)
  refine J.alloc 4 rfl zero67 [.int .u64 0, .int .u64 0, .int .u64 0, .int .u64 0, .int .u64 0, .int .u64 0, .int .u64 0, .int .u64 0] rfl rfl (fun g4 hg4 => ?_)
  refine J.end ?_
  refine X.then ?_
  refine T.seq ?_
  refine T.text [.l] rfl ?_
  refine J.alloc 5 rfl zero8 (rowN .u64 (lg 0)) rfl rfl (fun g5 hg5 => ?_)
  refine J.end ?_
  refine X.then ?_
  refine T.seq ?_
  refine T.seq ?_
  refine T.text [.l] rfl ?_
  refine J.move rfl rfl ?_
  refine J.end ?_
  refine X.then ?_
  refine T.block ?_
  refine T.loop (ι := Nat × List Nat) (fun ((i, ps) : Nat × List Nat) => i ≤ 4 ∧ ps.length = 8 ∧ Dq 18446744073709551616 ps ∧ vq 18446744073709551616 ps = (x0 % 2 ^ 256) % 18446744073709551616 ^ i * (x1 % 2 ^ 256) ∧ ∀ q, i + 4 ≤ q → ps.getD q 0 = 0) (fun ((i, ps) : Nat × List Nat) => [(0, W x0), (1, W x1), (2, .pointer (some ⟨g2, 0, none⟩)), (3, .pointer (some ⟨g3, 0, none⟩)), (4, .pointer (some ⟨g4, 0, none⟩)), (5, .pointer (some ⟨g5, 0, none⟩)), (12, .int .i64 (i : Int))]) (fun ((i, ps) : Nat × List Nat) => [(2, ⟨some g2, 24, (wc x0)⟩), (3, ⟨some g3, 24, (wc x1)⟩), (4, ⟨some g4, 67, [.int .u64 0, .int .u64 0, .int .u64 0, .int .u64 0, .int .u64 0, .int .u64 0, .int .u64 0, .int .u64 0]⟩), (5, ⟨some g5, 67, rowN .u64 ps⟩)]) (fun ((i, ps) : Nat × List Nat) => 4 - i) ⟨0, (lg 0)⟩ ⟨Nat.zero_le _, rfl, lg_dq 0, by rw [Nat.pow_zero, Nat.mod_one, Nat.zero_mul]; exact lg_zero, fun q hq => lg_zero_get q⟩ (by repeat (first | exact Sub.nil _ | refine Sub.cons (by first | rfl | (rw [dgs_zero]; rfl) | (rw [List.drop_length]; rfl) | (simp; done) | (congr 2; omega) | (congr 3; omega)) ?_)) (by repeat (first | exact Sub.nil _ | refine Sub.cons (by first | rfl | (rw [dgs_zero]; rfl) | (rw [List.drop_length]; rfl) | (simp; done) | (congr 2; omega) | (congr 3; omega)) ?_)) ?_
  rintro ⟨i, ps⟩ ⟨hi, hl, hd, hv, hz⟩
  try dsimp only at *
  refine T.seq ?_
  refine T.text [.l] rfl ?_
  refine J.lss rfl rfl rfl rfl ?_
  refine J.end ?_
  refine X.then ?_
  refine T.seq ?_
  refine T.cond_dec rfl (fun h1 => ?_) (fun h1 => ?_)
  · skip
    refine T.skip ?_
    refine X.then ?_
    refine T.seq ?_
    refine T.block ?_
    refine T.seq ?_
    refine T.text [.l, .l] rfl ?_
    refine J.move rfl rfl ?_
    refine J.assign rfl rfl ?_
    refine J.end ?_
    refine X.then ?_
    refine T.seq ?_
    refine T.text [.l] rfl ?_
    refine J.assign rfl rfl ?_
    refine J.end ?_
    refine X.then ?_
    refine T.seq ?_
    refine T.seq ?_
    refine T.text [.l] rfl ?_
    refine J.move rfl rfl ?_
    refine J.end ?_
    refine X.then ?_
    refine T.block ?_
    refine T.loop (ι := Nat × Nat × List Nat) (fun ((k, c, ps2) : Nat × Nat × List Nat) => k ≤ 4 ∧ c < 18446744073709551616 ∧ ps2.length = 8 ∧ Dq 18446744073709551616 ps2 ∧ vq 18446744073709551616 ps2 + c * 18446744073709551616 ^ (i + k) = (x0 % 2 ^ 256) % 18446744073709551616 ^ i * (x1 % 2 ^ 256) + lim x0 i * ((x1 % 2 ^ 256) % 18446744073709551616 ^ k) * 18446744073709551616 ^ i ∧ ∀ q, i + 4 ≤ q → ps2.getD q 0 = 0) (fun ((k, c, ps2) : Nat × Nat × List Nat) => [(0, W x0), (1, W x1), (2, .pointer (some ⟨g2, 0, none⟩)), (3, .pointer (some ⟨g3, 0, none⟩)), (4, .pointer (some ⟨g4, 0, none⟩)), (5, .pointer (some ⟨g5, 0, none⟩)), (12, .int .i64 (i : Int)), (14, .int .i64 (i : Int)), (6, .int .i64 (i : Int)), (15, .int .i64 (k : Int)), (7, .int .u64 (c : Int))]) (fun ((k, c, ps2) : Nat × Nat × List Nat) => [(2, ⟨some g2, 24, (wc x0)⟩), (3, ⟨some g3, 24, (wc x1)⟩), (4, ⟨some g4, 67, [.int .u64 0, .int .u64 0, .int .u64 0, .int .u64 0, .int .u64 0, .int .u64 0, .int .u64 0, .int .u64 0]⟩), (5, ⟨some g5, 67, rowN .u64 ps2⟩)]) (fun ((k, c, ps2) : Nat × Nat × List Nat) => 4 - k) ⟨0, 0, ps⟩ ⟨Nat.zero_le _, by omega, hl, hd, by rw [hv, Nat.pow_zero 18446744073709551616, Nat.mod_one]; omega, hz⟩ (by repeat (first | exact Sub.nil _ | refine Sub.cons (by first | rfl | (rw [dgs_zero]; rfl) | (rw [List.drop_length]; rfl) | (simp; done) | (congr 2; omega) | (congr 3; omega)) ?_)) (by repeat (first | exact Sub.nil _ | refine Sub.cons (by first | rfl | (rw [dgs_zero]; rfl) | (rw [List.drop_length]; rfl) | (simp; done) | (congr 2; omega) | (congr 3; omega)) ?_)) ?_
    rintro ⟨k, c, ps2⟩ ⟨hk, hc, hl2, hd2, hv2, hz2⟩
    try dsimp only at *
    refine T.seq ?_
    refine T.text [.l] rfl ?_
    refine J.lss rfl rfl rfl rfl ?_
    refine J.end ?_
    refine X.then ?_
    refine T.seq ?_
    refine T.cond_dec rfl (fun h2 => ?_) (fun h2 => ?_)
    · have hll0 := lim_lt x0 i
      have hll1 := lim_lt x1 k
      have hgl := hd2.getD (by omega) (i + k)
      refine T.skip ?_
      refine X.then ?_
      refine T.seq ?_
      refine T.block ?_
      refine T.seq ?_
      refine T.text [.l, .l] rfl ?_
      refine J.move rfl rfl ?_
      refine J.assign rfl rfl ?_
      refine J.end ?_
      refine X.then ?_
      refine T.seq ?_
      refine T.draw [] [(0, .g), (1, .g), (2, .q), (3, .g), (4, .g), (5, .q), (6, .q), (7, .g), (8, .g), (9, .g), (10, .g), (11, .g)] (by kernel_rfl) (by kernel_rfl) ?_ (by repeat (first | exact Sub.nil _ | refine Sub.cons (by first | rfl | (rw [dgs_zero]; rfl) | (rw [List.drop_length]; rfl) | (simp; done) | (congr 2; omega) | (congr 3; omega)) ?_))
      refine J.move rfl rfl ?_
      refine J.indexArr arr24 rfl rfl (by omega) (by omega) (by first | exact Int.toNat_natCast _ | rfl) rfl ?_
      refine J.load1 (k := .q) trivial 2 rfl rfl one22 (by exact wc_at _ _ (by omega)) rfl ?_
      have hl21 := lim_lt x0 i
      refine J.move rfl rfl ?_
      refine J.indexArr arr24 rfl rfl (by omega) (by omega) (by first | exact Int.toNat_natCast _ | rfl) rfl ?_
      refine J.load1 (k := .q) trivial 3 rfl rfl one22 (by exact wc_at _ _ (by omega)) rfl ?_
      have hl24 := lim_lt x1 k
      refine J.call0 (k := .q) trivial fok146 rfl rfl (fun w hw => Wb.Mul64 w _ _ hll0 hll1) ?_
      obtain ⟨_, _, _, _, _, hP⟩ := mul64 (lim x0 i) (lim x1 k) hll0 hll1
      have hm := mac hgl hc hP
      have hst := mul_step (by omega) hd2 (show i + k < ps2.length by omega) hll0 hll1 hc
      have hv4 : vq 18446744073709551616 (ps2.set (i + k) ((ps2.getD (i + k) 0 + lim x0 i * lim x1 k + c) % 18446744073709551616)) + (ps2.getD (i + k) 0 + lim x0 i * lim x1 k + c) / 18446744073709551616 * 18446744073709551616 ^ (i + (k + 1)) = (x0 % 2 ^ 256) % 18446744073709551616 ^ i * (x1 % 2 ^ 256) + lim x0 i * ((x1 % 2 ^ 256) % 18446744073709551616 ^ (k + 1)) * 18446744073709551616 ^ i := by
        rw [← Nat.add_assoc i k 1, hst.2.2, hv2, mod_succ_lim (x1 % 2 ^ 256) k, lim_mod256 x1 k (by omega), Nat.mul_add, Nat.add_mul, Nat.add_assoc]; congr 2; rw [Nat.pow_add, ← Nat.mul_assoc (lim x0 i), Nat.mul_assoc (lim x0 i * lim x1 k), Nat.mul_comm (18446744073709551616 ^ k)]
      refine J.move rfl rfl ?_
      refine J.extract rfl rfl rfl ?_
      refine J.extract rfl rfl rfl ?_
      refine J.assign rfl rfl ?_
      refine J.assign rfl rfl ?_
      refine J.end ?_
      refine X.then ?_
      refine T.seq ?_
      refine T.text [.l] rfl ?_
      refine J.assign rfl rfl ?_
      refine J.end ?_
      refine X.then ?_
      refine T.seq ?_
      refine T.text [.l, .l, .l, .l, .l, .l, .l, .l, .l, .l, .l, .l] rfl ?_
      refine J.move rfl rfl ?_
      refine J.move rfl rfl ?_
      refine J.move rfl rfl ?_
      refine J.add rfl rfl rfl (by first | exact add_nat _ _ (by omega) | exact i64_ok _ (by omega) | exact rfl) ?_
      refine J.indexArr arr67 rfl rfl (by omega) (by omega) (by first | exact Int.toNat_natCast _ | rfl) rfl ?_
      refine J.load1 (k := .l) trivial 5 rfl rfl one22 (by exact rowN_get0 _ _ _ (by omega)) rfl ?_
      refine J.add64z Tryd.func142 (by kernel_rfl) (by kernel_rfl) (by kernel_rfl) (by kernel_rfl) rfl rfl rfl ?_
      refine J.move rfl rfl ?_
      refine J.extract rfl rfl rfl ?_
      refine J.extract rfl rfl rfl ?_
      refine J.assign rfl rfl ?_
      refine J.assign rfl rfl ?_
      refine J.end ?_
      refine X.then ?_
      refine T.seq ?_
      refine T.text [.l, .l, .l, .l] rfl ?_
      refine J.move rfl rfl ?_
      refine J.move rfl rfl ?_
      refine J.add rfl rfl rfl (by first | exact addu_nat _ _ (by omega) | exact u64_ok _ (by omega) | exact u64_wrap _) ?_
      refine J.assign rfl rfl ?_
      refine J.end ?_
      refine X.then ?_
      refine T.seq ?_
      refine T.text [.l, .l, .l, .l, .l, .l, .l, .l] rfl ?_
      refine J.move rfl rfl ?_
      refine J.move rfl rfl ?_
      refine J.add64z Tryd.func142 (by kernel_rfl) (by kernel_rfl) (by kernel_rfl) (by kernel_rfl) rfl rfl rfl ?_
      refine J.move rfl rfl ?_
      refine J.extract rfl rfl rfl ?_
      refine J.extract rfl rfl rfl ?_
      refine J.assign rfl rfl ?_
      refine J.assign rfl rfl ?_
      refine J.end ?_
      refine X.then ?_
      refine T.seq ?_
      refine T.text [.l, .l, .l, .l, .l, .l] rfl ?_
      refine J.move rfl rfl ?_
      refine J.move rfl rfl ?_
      refine J.add rfl rfl rfl (by first | exact add_nat _ _ (by omega) | exact i64_ok _ (by omega) | exact rfl) ?_
      refine J.move rfl rfl ?_
      refine J.indexArr arr67 rfl rfl (by omega) (by omega) (by first | exact Int.toNat_natCast _ | rfl) rfl ?_
      refine J.as 50 (.int .u64 (((ps2.getD (i + k) 0 + lim x0 i * lim x1 k + c) % 18446744073709551616 : Nat) : Int)) rfl (by congr 2; have := hm.2.2.1; omega) ?_
      refine J.store 5 rfl rfl rfl rfl [.int .u64 (((ps2.getD (i + k) 0 + lim x0 i * lim x1 k + c) % 18446744073709551616 : Nat) : Int)] rfl sz22 (by rw [rowN_length, hl2]; show _ + 1 ≤ 8; omega) (by first | exact rowN_one _ _ | (simp; done) | (intro u hu; simp at hu; subst hu; rfl) | (intro u hu; simp at hu; rcases hu with rfl | rfl <;> rfl)) (by first | decide | exact Nat.zero_lt_succ _ | simp) trivial (rowN .u64 (ps2.set (i + k) ((ps2.getD (i + k) 0 + lim x0 i * lim x1 k + c) % 18446744073709551616))) (by rw [Nat.zero_add, Nat.mul_one]; exact putN' _ _ _ _ (by omega)) ?_
      refine J.end ?_
      refine X.then ?_
      refine T.text [.l, .l, .l, .l] rfl ?_
      refine J.move rfl rfl ?_
      refine J.move rfl rfl ?_
      refine J.add rfl rfl rfl (by first | exact addu_nat _ _ (by omega) | exact u64_ok _ (by omega) | exact u64_wrap _) ?_
      refine J.as 54 (.int .u64 (((ps2.getD (i + k) 0 + lim x0 i * lim x1 k + c) / 18446744073709551616 : Nat) : Int)) rfl (by congr 2; have := hm.2.2.2; omega) ?_
      refine J.assign rfl rfl ?_
      refine J.end ?_
      refine X.inBlock (X.then ?_)
      refine T.text [.l, .l] rfl ?_
      refine J.add rfl rfl rfl (by first | exact add_nat _ 1 (by omega) | exact i64_ok _ (by omega) | exact rfl) ?_
      refine J.move rfl rfl ?_
      refine J.end ?_
      exact X.round ⟨(k + 1), ((ps2.getD (i + k) 0 + lim x0 i * lim x1 k + c) / 18446744073709551616), (ps2.set (i + k) ((ps2.getD (i + k) 0 + lim x0 i * lim x1 k + c) % 18446744073709551616))⟩ ⟨by omega, hst.1, by rw [List.length_set]; exact hl2, hst.2.1, hv4, fun q hq => by rw [getD_set _ _ _ _ (by omega), if_neg (by omega)]; exact hz2 q hq⟩ (by first | omega | (dsimp only; omega)) (by repeat (first | exact Sub.nil _ | refine Sub.cons (by first | rfl | (rw [dgs_zero]; rfl) | (rw [List.drop_length]; rfl) | (simp; done) | (congr 2; omega) | (congr 3; omega)) ?_)) (by repeat (first | exact Sub.nil _ | refine Sub.cons (by first | rfl | (rw [dgs_zero]; rfl) | (rw [List.drop_length]; rfl) | (simp; done) | (congr 2; omega) | (congr 3; omega)) ?_))
    · obtain rfl : k = 4 := by omega
      have hvs := vq_set 18446744073709551616 ps2 (i + 4) c (by omega)
      rw [hz2 (i + 4) (by omega), Nat.zero_mul, Nat.add_zero, hv2] at hvs
      have hv3 : vq 18446744073709551616 (ps2.set (i + 4) c) = (x0 % 2 ^ 256) % 18446744073709551616 ^ (i + 1) * (x1 % 2 ^ 256) := by rw [hvs, mod_succ_lim (x0 % 2 ^ 256) i, lim_mod256 x0 i (by omega), Nat.add_mul, Nat.mod_eq_of_lt (show x1 % 2 ^ 256 < 18446744073709551616 ^ 4 by omega)]; congr 1; rw [Nat.mul_assoc, Nat.mul_comm (x1 % 2 ^ 256), ← Nat.mul_assoc]
      refine T.exit ?_
      refine X.then_exit (X.then_exit (X.inBlock_eq (X.then ?_)))
      refine T.text [.l, .l, .l, .l, .l] rfl ?_
      refine J.move rfl rfl ?_
      refine J.add rfl rfl rfl (by first | exact add_nat _ 4 (by omega) | exact i64_ok _ (by omega) | exact rfl) ?_
      refine J.move rfl rfl ?_
      refine J.indexArr arr67 rfl rfl (by omega) (by omega) (by first | exact Int.toNat_natCast _ | rfl) rfl ?_
      refine J.store 5 rfl rfl rfl rfl [.int .u64 ((c : Nat) : Int)] rfl sz22 (by rw [rowN_length, hl2]; show _ + 1 ≤ 8; omega) (by first | exact rowN_one _ _ | (simp; done) | (intro u hu; simp at hu; subst hu; rfl) | (intro u hu; simp at hu; rcases hu with rfl | rfl <;> rfl)) (by first | decide | exact Nat.zero_lt_succ _ | simp) trivial (rowN .u64 (ps2.set (i + 4) c)) (by rw [Nat.zero_add, Nat.mul_one]; exact putN' _ _ _ _ (by omega)) ?_
      refine J.end ?_
      refine X.inBlock (X.then ?_)
      refine T.text [.l, .l] rfl ?_
      refine J.add rfl rfl rfl (by first | exact add_nat _ 1 (by omega) | exact i64_ok _ (by omega) | exact rfl) ?_
      refine J.move rfl rfl ?_
      refine J.end ?_
      exact X.round ⟨(i + 1), (ps2.set (i + 4) c)⟩ ⟨by omega, by rw [List.length_set]; exact hl2, hd2.set _ hc, hv3, fun q hq => by rw [getD_set _ _ _ _ (by omega), if_neg (by omega)]; exact hz2 q (by omega)⟩ (by first | omega | (dsimp only; omega)) (by repeat (first | exact Sub.nil _ | refine Sub.cons (by first | rfl | (rw [dgs_zero]; rfl) | (rw [List.drop_length]; rfl) | (simp; done) | (congr 2; omega) | (congr 3; omega)) ?_)) (by repeat (first | exact Sub.nil _ | refine Sub.cons (by first | rfl | (rw [dgs_zero]; rfl) | (rw [List.drop_length]; rfl) | (simp; done) | (congr 2; omega) | (congr 3; omega)) ?_))
  · obtain rfl : i = 4 := by omega
    have hlg := lg_of hl hd
    rw [hv, Nat.mod_eq_of_lt (by omega)] at hlg
    rw [hlg]
    refine T.exit ?_
    refine X.then_exit (X.then_exit (X.inBlock_eq (X.then ?_)))
    refine T.seq ?_
    refine T.text [.l, .l] rfl ?_
    refine J.loadN (k := .l) trivial 5 rfl rfl agg67 (lc ((x0 % 2 ^ 256) * (x1 % 2 ^ 256))) rfl rfl rfl ?_
    refine J.store 4 rfl rfl rfl rfl (lc ((x0 % 2 ^ 256) * (x1 % 2 ^ 256))) rfl sz67 (by first | decide | exact Nat.le_refl _ | exact Nat.le_of_ble_eq_true rfl | (simp [rowN]; done) | (simp [rowN]; omega)) (by first | exact rowN_one _ _ | (simp; done) | (intro u hu; simp at hu; subst hu; rfl) | (intro u hu; simp at hu; rcases hu with rfl | rfl <;> rfl)) (by first | decide | exact Nat.zero_lt_succ _ | simp) trivial (lc ((x0 % 2 ^ 256) * (x1 % 2 ^ 256))) rfl ?_
    refine J.end ?_
    refine X.then ?_
    refine T.ret ?_
    exact X.ret1 rfl (RV.agg 4 rfl rfl agg67 (lc ((x0 % 2 ^ 256) * (x1 % 2 ^ 256))) (by rfl) (by rfl) rfl) (fun w' hw' => ⟨rfl, hw'.sub (Sub.nil _)⟩)

theorem Mul (w : World) (x0 : Nat) (x1 : Nat) :
    Calls Tryd.prog 27 [W x0, W x1].toArray w fun e w' => e = .returned (W (x0 * x1)) ∧ WS w [] [] w' := by
  refine calls_of_T [] 12 [] Tryd.func27 rfl Tryd.ntmps27 (by simp) (WS.refl _ _) ?_
  refine T.seq ?_
  refine T.text [.l, .l, .l] rfl ?_
  refine J.box 2 rfl rfl (wc x0) rfl rfl (fun g2 hg2 => ?_)
  refine J.box 3 rfl rfl (wc x1) rfl rfl (fun g3 hg3 => ?_)
  refine J.alloc 4 rfl zero24 [.int .u64 0, .int .u64 0, .int .u64 0, .int .u64 0] rfl rfl (fun g4 hg4 => ?_)
  refine J.end ?_
  refine X.then ?_
  refine T.seq ?_
  refine T.text [.l, .l, .l, .l, .l] rfl ?_
  refine J.loadN (k := .l) trivial 2 rfl rfl agg24 (wc x0) rfl rfl rfl ?_
  refine J.loadN (k := .l) trivial 3 rfl rfl agg24 (wc x1) rfl rfl rfl ?_
  refine J.call0 (k := .l) trivial fok114 rfl rfl (fun w hw => Wb.times w _ _) ?_
  refine J.alloc 5 rfl zero67 [.int .u64 0, .int .u64 0, .int .u64 0, .int .u64 0, .int .u64 0, .int .u64 0, .int .u64 0, .int .u64 0] rfl rfl (fun g5 hg5 => ?_)
  refine J.store 5 rfl rfl rfl rfl (lc ((x0 % 2 ^ 256) * (x1 % 2 ^ 256))) rfl sz67 (by first | decide | exact Nat.le_refl _ | exact Nat.le_of_ble_eq_true rfl | (simp [rowN]; done) | (simp [rowN]; omega)) (by first | exact rowN_one _ _ | (simp; done) | (intro u hu; simp at hu; subst hu; rfl) | (intro u hu; simp at hu; rcases hu with rfl | rfl <;> rfl)) (by first | decide | exact Nat.zero_lt_succ _ | simp) trivial (lc ((x0 % 2 ^ 256) * (x1 % 2 ^ 256))) rfl ?_
  refine J.end ?_
  refine X.then ?_
  refine T.seq ?_
  refine T.text [.l, .l, .l, .l] rfl ?_
  refine J.sliceArr arr67 rfl optInt.none (optInt.some rfl (by omega) (by rfl)) optInt.none (by simp) (by omega) (by omega) (by omega) rfl rfl ?_
  refine J.toArr Tryd.underlying24 rfl (by decide) rfl ?_
  refine J.loadN (k := .l) trivial 5 rfl rfl agg24 (wc ((x0 % 2 ^ 256) * (x1 % 2 ^ 256))) rfl rfl rfl ?_
  refine J.store 4 rfl rfl rfl rfl (wc ((x0 % 2 ^ 256) * (x1 % 2 ^ 256))) rfl sz24 (by first | decide | exact Nat.le_refl _ | exact Nat.le_of_ble_eq_true rfl | (simp [rowN]; done) | (simp [rowN]; omega)) (by first | exact rowN_one _ _ | (simp; done) | (intro u hu; simp at hu; subst hu; rfl) | (intro u hu; simp at hu; rcases hu with rfl | rfl <;> rfl)) (by first | decide | exact Nat.zero_lt_succ _ | simp) trivial (wc ((x0 % 2 ^ 256) * (x1 % 2 ^ 256))) rfl ?_
  refine J.end ?_
  refine X.then ?_
  refine T.ret ?_
  exact X.ret1 rfl (RV.agg 4 rfl rfl agg24 (wc ((x0 % 2 ^ 256) * (x1 % 2 ^ 256))) (by rfl) (by rfl) rfl) (fun w' hw' => ⟨retW (by rw [← Nat.mul_mod]), hw'.sub (Sub.nil _)⟩)

theorem wide (w : World) (x0 c : Nat) (hc : c < 18446744073709551616) :
    Calls Tryd.prog 117 [W x0, .int .u64 (c : Int)].toArray w fun e w' => e = .returned (.agg (lc (x0 % 2 ^ 256 + c * 2 ^ 256)).toArray) ∧ WS w [] [] w' := by
  refine calls_of_T [] 15 [] Tryd.func117 rfl Tryd.ntmps117 (by simp) (WS.refl _ _) ?_
  refine T.seq ?_
  refine T.text [.l, .l] rfl ?_
  refine J.box 2 rfl rfl (wc x0) rfl rfl (fun g2 hg2 => ?_)
  refine J.alloc 4 rfl zero67 [.int .u64 0, .int .u64 0, .int .u64 0, .int .u64 0, .int .u64 0, .int .u64 0, .int .u64 0, .int .u64 0] rfl rfl (fun g4 hg4 => ?_)
  refine J.end ?_
  refine X.then ?_
  refine T.seq ?_
  refine T.text [.l, .l, .l, .l, .l, .l, .l, .l, .l, .l, .l] rfl ?_
  refine J.indexArr arr24 rfl rfl (by omega) (by omega) (by rfl) rfl ?_
  refine J.load1 (k := .l) trivial 2 rfl rfl one22 (by exact wc_at _ 0 (by omega)) rfl ?_
  have hl6 := lim_lt x0 0
  refine J.indexArr arr24 rfl rfl (by omega) (by omega) (by rfl) rfl ?_
  refine J.load1 (k := .l) trivial 2 rfl rfl one22 (by exact wc_at _ 1 (by omega)) rfl ?_
  have hl8 := lim_lt x0 1
  refine J.indexArr arr24 rfl rfl (by omega) (by omega) (by rfl) rfl ?_
  refine J.load1 (k := .l) trivial 2 rfl rfl one22 (by exact wc_at _ 2 (by omega)) rfl ?_
  have hl10 := lim_lt x0 2
  refine J.indexArr arr24 rfl rfl (by omega) (by omega) (by rfl) rfl ?_
  refine J.load1 (k := .l) trivial 2 rfl rfl one22 (by exact wc_at _ 3 (by omega)) rfl ?_
  have hl12 := lim_lt x0 3
  refine J.move rfl rfl ?_
  refine J.build rfl rfl (.agg ([.int .u64 ((lim x0 0 : Nat) : Int), .int .u64 ((lim x0 1 : Nat) : Int), .int .u64 ((lim x0 2 : Nat) : Int), .int .u64 ((lim x0 3 : Nat) : Int), .int .u64 (c : Int), .int .u64 0, .int .u64 0, .int .u64 0] : List Value).toArray) (fun w => by kernel_rfl) ?_
  refine J.as 14 (.agg (lc (x0 % 2 ^ 256 + c * 2 ^ 256)).toArray) rfl (by show _ = Value.agg (rowN .u64 (lg (x0 % 2 ^ 256 + c * 2 ^ 256))).toArray; rw [← lg_wide hc]; rfl) ?_
  refine J.store 4 rfl rfl rfl rfl (lc (x0 % 2 ^ 256 + c * 2 ^ 256)) rfl sz67 (by first | decide | exact Nat.le_refl _ | exact Nat.le_of_ble_eq_true rfl | (simp [rowN]; done) | (simp [rowN]; omega)) (by first | exact rowN_one _ _ | (simp; done) | (intro u hu; simp at hu; subst hu; rfl) | (intro u hu; simp at hu; rcases hu with rfl | rfl <;> rfl)) (by first | decide | exact Nat.zero_lt_succ _ | simp) trivial (lc (x0 % 2 ^ 256 + c * 2 ^ 256)) rfl ?_
  refine J.end ?_
  refine X.then ?_
  refine T.ret ?_
  exact X.ret1 rfl (RV.agg 4 rfl rfl agg67 (lc (x0 % 2 ^ 256 + c * 2 ^ 256)) (by rfl) (by rfl) rfl) (fun w' hw' => ⟨rfl, hw'.sub (Sub.nil _)⟩)

theorem double (w : World) (x0 b : Nat) (hb : b ≤ 1) :
    Calls Tryd.prog 147 [W x0, .int .u64 (b : Int)].toArray w fun e w' => e = .returned (W (2 * x0 + b)) ∧ WS w [] [] w' := by
  refine calls_of_T [] 25 [] Tryd.func147 rfl Tryd.ntmps147 (by simp) (WS.refl _ _) ?_
  refine T.seq ?_
  refine T.text [.l, .l] rfl ?_
  refine J.box 2 rfl rfl (wc x0) rfl rfl (fun g2 hg2 => ?_)
  refine J.alloc 4 rfl zero24 [.int .u64 0, .int .u64 0, .int .u64 0, .int .u64 0] rfl rfl (fun g4 hg4 => ?_)
  refine J.end ?_
  refine X.then ?_
  refine T.seq ?_
  refine T.seq ?_
  refine T.text [.l] rfl ?_
  refine J.move rfl rfl ?_
  refine J.end ?_
  refine X.then ?_
  refine T.block ?_
  refine T.loop (ι := Nat × List Nat) (fun ((i, ys) : Nat × List Nat) => i ≤ 4 ∧ ys.length = 4 ∧ (∀ q, q < i → ys.getD q 0 = lim (2 * x0 + b) q) ∧ ∀ q, i ≤ q → q < 4 → ys.getD q 0 = lim x0 q) (fun ((i, ys) : Nat × List Nat) => [(0, W x0), (2, .pointer (some ⟨g2, 0, none⟩)), (4, .pointer (some ⟨g4, 0, none⟩)), (7, .int .i64 (i : Int)), (1, .int .u64 ((lw x0 b i : Nat) : Int))]) (fun ((i, ys) : Nat × List Nat) => [(4, ⟨some g4, 24, [.int .u64 0, .int .u64 0, .int .u64 0, .int .u64 0]⟩), (2, ⟨some g2, 24, rowN .u64 ys⟩)]) (fun ((i, ys) : Nat × List Nat) => 4 - i) ⟨0, (wl x0)⟩ ⟨Nat.zero_le _, rfl, fun q hq => by omega, fun q _ hq => wl_get x0 q hq⟩ (by repeat (first | exact Sub.nil _ | refine Sub.cons (by first | rfl | (rw [dgs_zero]; rfl) | (rw [List.drop_length]; rfl) | (simp; done) | (congr 2; omega) | (congr 3; omega)) ?_)) (by repeat (first | exact Sub.nil _ | refine Sub.cons (by first | rfl | (rw [dgs_zero]; rfl) | (rw [List.drop_length]; rfl) | (simp; done) | (congr 2; omega) | (congr 3; omega)) ?_)) ?_
  rintro ⟨i, ys⟩ ⟨hi, hl, hy, hz⟩
  try dsimp only at *
  refine T.seq ?_
  refine T.text [.l] rfl ?_
  refine J.lss rfl rfl rfl rfl ?_
  refine J.end ?_
  refine X.then ?_
  refine T.seq ?_
  refine T.cond_dec rfl (fun h1 => ?_) (fun h1 => ?_)
  · have hi4 : i < 4 := by omega
    have hyi := hz i (Nat.le_refl _) hi4
    have hll := lim_lt x0 i
    have hlw := lw_le x0 b i hb
    have hdl := dbl_lim x0 b i hb hi4
    refine T.skip ?_
    refine X.then ?_
    refine T.seq ?_
    refine T.block ?_
    refine T.seq ?_
    refine T.text [.l, .l] rfl ?_
    refine J.move rfl rfl ?_
    refine J.assign rfl rfl ?_
    refine J.end ?_
    refine X.then ?_
    refine T.seq ?_
    refine T.text [.l, .l, .l, .l, .l] rfl ?_
    refine J.move rfl rfl ?_
    refine J.indexArr arr24 rfl rfl (by omega) (by omega) (by first | exact Int.toNat_natCast _ | rfl) rfl ?_
    refine J.load1 (k := .l) trivial 2 rfl rfl one22 (by exact rowN_get0 _ _ _ (by omega)) rfl ?_
    refine J.as 12 (.int .u64 ((lim x0 i : Nat) : Int)) rfl (by rw [hyi]) ?_
    refine J.shr rfl rfl rfl (by decide) (by exact shr63_nat _) ?_
    refine J.as 13 (.int .u64 ((lw x0 b (i + 1) : Nat) : Int)) rfl (by unfold lw; rw [if_neg (by omega)]; rfl) ?_
    refine J.assign rfl rfl ?_
    refine J.end ?_
    refine X.then ?_
    refine T.seq ?_
    refine T.text [.l, .l, .l, .l, .l, .l, .l, .l, .l] rfl ?_
    refine J.move rfl rfl ?_
    refine J.move rfl rfl ?_
    refine J.indexArr arr24 rfl rfl (by omega) (by omega) (by first | exact Int.toNat_natCast _ | rfl) rfl ?_
    refine J.load1 (k := .l) trivial 2 rfl rfl one22 (by exact rowN_get0 _ _ _ (by omega)) rfl ?_
    refine J.as 17 (.int .u64 ((lim x0 i : Nat) : Int)) rfl (by rw [hyi]) ?_
    refine J.shl rfl rfl rfl (by decide) (by exact shl1_nat _) ?_
    refine J.move rfl rfl ?_
    refine J.bor rfl rfl rfl (by exact or_nat _ _ (by omega)) ?_
    refine J.as 20 (.int .u64 ((lim (2 * x0 + b) i : Nat) : Int)) rfl (by rw [hdl]) ?_
    refine J.indexArr arr24 rfl rfl (by omega) (by omega) (by first | exact Int.toNat_natCast _ | rfl) rfl ?_
    refine J.store 2 rfl rfl rfl rfl [.int .u64 ((lim (2 * x0 + b) i : Nat) : Int)] rfl sz22 (by rw [rowN_length, hl]; show _ + 1 ≤ 4; omega) (by first | exact rowN_one _ _ | (simp; done) | (intro u hu; simp at hu; subst hu; rfl) | (intro u hu; simp at hu; rcases hu with rfl | rfl <;> rfl)) (by first | decide | exact Nat.zero_lt_succ _ | simp) trivial (rowN .u64 (ys.set i (lim (2 * x0 + b) i))) (by rw [Nat.zero_add, Nat.mul_one]; exact putN' _ _ _ _ (by omega)) ?_
    refine J.end ?_
    refine X.then ?_
    refine T.text [.l, .l] rfl ?_
    refine J.move rfl rfl ?_
    refine J.assign rfl rfl ?_
    refine J.end ?_
    refine X.inBlock (X.then ?_)
    refine T.text [.l, .l] rfl ?_
    refine J.add rfl rfl rfl (by first | exact add_nat _ 1 (by omega) | exact i64_ok _ (by omega) | exact rfl) ?_
    refine J.move rfl rfl ?_
    refine J.end ?_
    exact X.round ⟨(i + 1), (ys.set i (lim (2 * x0 + b) i))⟩ ⟨by omega, by simp [hl], fun q hq => by
          rw [getD_set _ _ _ _ (by omega)]
          split
          · rename_i h; subst h; rfl
          · exact hy q (by omega), fun q h1 h2 => by rw [getD_set _ _ _ _ (by omega), if_neg (by omega)]; exact hz q (by omega) h2⟩ (by first | omega | (dsimp only; omega)) (by repeat (first | exact Sub.nil _ | refine Sub.cons (by first | rfl | (rw [dgs_zero]; rfl) | (rw [List.drop_length]; rfl) | (simp; done) | (congr 2; omega) | (congr 3; omega)) ?_)) (by repeat (first | exact Sub.nil _ | refine Sub.cons (by first | rfl | (rw [dgs_zero]; rfl) | (rw [List.drop_length]; rfl) | (simp; done) | (congr 2; omega) | (congr 3; omega)) ?_))
  · obtain rfl : i = 4 := by omega
    obtain rfl : ys = wl (2 * x0 + b) := wl_of hl _ hy
    refine T.exit ?_
    refine X.then_exit (X.then_exit (X.inBlock_eq (X.then ?_)))
    refine T.seq ?_
    refine T.text [.l, .l] rfl ?_
    refine J.loadN (k := .l) trivial 2 rfl rfl agg24 (wc (2 * x0 + b)) rfl rfl rfl ?_
    refine J.store 4 rfl rfl rfl rfl (wc (2 * x0 + b)) rfl sz24 (by first | decide | exact Nat.le_refl _ | exact Nat.le_of_ble_eq_true rfl | (simp [rowN]; done) | (simp [rowN]; omega)) (by first | exact rowN_one _ _ | (simp; done) | (intro u hu; simp at hu; subst hu; rfl) | (intro u hu; simp at hu; rcases hu with rfl | rfl <;> rfl)) (by first | decide | exact Nat.zero_lt_succ _ | simp) trivial (wc (2 * x0 + b)) rfl ?_
    refine J.end ?_
    refine X.then ?_
    refine T.ret ?_
    exact X.ret1 rfl (RV.agg 4 rfl rfl agg24 (wc (2 * x0 + b)) (by rfl) (by rfl) rfl) (fun w' hw' => ⟨rfl, hw'.sub (Sub.nil _)⟩)
end Go.Proofs.YtegociefcfcihaaDoor.Wb
