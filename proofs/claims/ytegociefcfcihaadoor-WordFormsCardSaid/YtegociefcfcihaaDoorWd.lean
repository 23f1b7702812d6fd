/-
  Walks, printed by gen.py: what each function hands back, said of numbers.
  Conditions: those that each theorem bears.
-/
import Derived.Test.YtegociefcfcihaaDoorChecked
import Derived.Test.YtegociefcfcihaaDoorFs
import Derived.Test.YtegociefcfcihaaDoorWa
import Derived.Test.YtegociefcfcihaaDoorWb
set_option linter.unusedVariables false
set_option maxRecDepth 20000
namespace Go.Proofs.YtegociefcfcihaaDoor.Wd
open Go Go.Fw

theorem sz39 : SizeT Tryd.prog 39 32 := (by unfold SizeT; kernel_rfl)
theorem zero8 : ZeroT Tryd.prog 67 (.agg (rowN .u64 (lg 0)).toArray) := (by unfold ZeroT; kernel_rfl)
theorem zero24 : ZeroT Tryd.prog 24 (.agg ([.int .u64 0, .int .u64 0, .int .u64 0, .int .u64 0]).toArray) := (by unfold ZeroT; kernel_rfl)
theorem sz22 : SizeT Tryd.prog 22 1 := (by unfold SizeT; kernel_rfl)
theorem arr67 : ArrT Tryd.prog 67 8 22 1 := ⟨Tryd.underlying67, sz22⟩
theorem one22 : OneT Tryd.prog 22 := ⟨⟨_, Tryd.underlying22, rfl⟩, by kernel_rfl⟩
theorem arr24 : ArrT Tryd.prog 24 4 22 1 := ⟨Tryd.underlying24, sz22⟩
theorem agg24 : AggT Tryd.prog 24 4 := ⟨⟨_, Tryd.underlying24, rfl⟩, by kernel_rfl⟩
theorem fok147 : FnOk Tryd.prog 147 := FnOk.mk' Tryd.func147 (by kernel_rfl) rfl
theorem sz24 : SizeT Tryd.prog 24 4 := (by unfold SizeT; kernel_rfl)
theorem fok25 : FnOk Tryd.prog 25 := FnOk.mk' Tryd.func25 (by kernel_rfl) rfl
theorem fok54 : FnOk Tryd.prog 54 := FnOk.mk' Tryd.func54 (by kernel_rfl) rfl

set_option maxHeartbeats 1000000 in
theorem divide (w : World) (N x1 : Nat) (hN : N < 2 ^ 512) (hD : x1 % 2 ^ 256 ≠ 0) :
    Calls Tryd.prog 116 [.agg (lc (N)).toArray, W x1].toArray w fun e w' => e = .returned (.tuple #[W (N / (x1 % 2 ^ 256)), W (N % (x1 % 2 ^ 256))]) ∧ WS w [] [] w' := by
  refine calls_of_T [] 60 [] Tryd.func116 rfl Tryd.ntmps116 (by simp) (WS.refl _ _) ?_
  refine T.seq ?_
  refine T.text [.l, .l, .l, .l] rfl ?_
  refine J.box 2 rfl rfl (lc N) rfl rfl (fun g2 hg2 => ?_)
  refine J.box 3 rfl rfl (wc x1) rfl rfl (fun g3 hg3 => ?_)
  refine J.alloc 4 rfl zero24 [.int .u64 0, .int .u64 0, .int .u64 0, .int .u64 0] rfl rfl (fun g4 hg4 => ?_)
  refine J.alloc 5 rfl zero24 [.int .u64 0, .int .u64 0, .int .u64 0, .int .u64 0] rfl rfl (fun g5 hg5 => ?_)
  refine J.end ?_
  refine X.then ?_
  refine T.scope ?_
  refine T.seq ?_
  refine T.text [.l] rfl ?_
  refine J.assign rfl rfl ?_
  refine J.end ?_
  refine X.then ?_
  refine T.seq ?_
  refine T.label ?_
  refine X.then ?_
  refine T.meet (ι := Nat) (fun (t : Nat) => t ≤ 7 ∧ N < 18446744073709551616 ^ (t + 1)) (fun (t : Nat) => [(0, .agg (lc (N)).toArray), (1, W x1), (2, .pointer (some ⟨g2, 0, none⟩)), (3, .pointer (some ⟨g3, 0, none⟩)), (4, .pointer (some ⟨g4, 0, none⟩)), (5, .pointer (some ⟨g5, 0, none⟩)), (6, .int .i64 (t : Int))]) (fun (t : Nat) => [(2, ⟨some g2, 67, (lc N)⟩), (3, ⟨some g3, 24, (wc x1)⟩), (4, ⟨some g4, 24, [.int .u64 0, .int .u64 0, .int .u64 0, .int .u64 0]⟩), (5, ⟨some g5, 24, [.int .u64 0, .int .u64 0, .int .u64 0, .int .u64 0]⟩)]) ?_ ?_
  · -- up to where the ways meet
    refine T.block ?_
    refine T.loop (ι := Nat) (fun (t : Nat) => t ≤ 7 ∧ N < 18446744073709551616 ^ (t + 1)) (fun (t : Nat) => [(0, .agg (lc (N)).toArray), (1, W x1), (2, .pointer (some ⟨g2, 0, none⟩)), (3, .pointer (some ⟨g3, 0, none⟩)), (4, .pointer (some ⟨g4, 0, none⟩)), (5, .pointer (some ⟨g5, 0, none⟩)), (6, .int .i64 (t : Int))]) (fun (t : Nat) => [(2, ⟨some g2, 67, (lc N)⟩), (3, ⟨some g3, 24, (wc x1)⟩), (4, ⟨some g4, 24, [.int .u64 0, .int .u64 0, .int .u64 0, .int .u64 0]⟩), (5, ⟨some g5, 24, [.int .u64 0, .int .u64 0, .int .u64 0, .int .u64 0]⟩)]) (fun (t : Nat) => t) 7 ⟨Nat.le_refl _, by omega⟩ (by repeat (first | exact Sub.nil _ | refine Sub.cons (by first | rfl | (rw [dgs_zero]; rfl) | (rw [List.drop_length]; rfl) | (simp; done) | (congr 2; omega) | (congr 3; omega)) ?_)) (by repeat (first | exact Sub.nil _ | refine Sub.cons (by first | rfl | (rw [dgs_zero]; rfl) | (rw [List.drop_length]; rfl) | (simp; done) | (congr 2; omega) | (congr 3; omega)) ?_)) ?_
    rintro t ⟨ht, hNt⟩
    refine T.seq ?_
    refine T.seq ?_
    refine T.text [.l, .l] rfl ?_
    refine J.move rfl rfl ?_
    refine J.gtr rfl rfl rfl rfl ?_
    refine J.end ?_
    refine X.then ?_
    refine T.cond_dec rfl (fun h1 => ?_) (fun h1 => ?_)
    · skip
      refine T.skip ?_
      refine X.then ?_
      refine T.block ?_
      refine T.seq ?_
      refine T.seq ?_
      refine T.text [.l, .l, .l, .l] rfl ?_
      refine J.move rfl rfl ?_
      refine J.indexArr arr67 rfl rfl (by omega) (by omega) (by first | exact Int.toNat_natCast _ | rfl) rfl ?_
      refine J.load1 (k := .l) trivial 2 rfl rfl one22 (by exact lc_at _ _ (by omega)) rfl ?_
      have hl14 := lim_lt N t
      refine J.neq rfl rfl rfl rfl ?_
      refine J.end ?_
      refine X.then ?_
      refine T.cond_dec rfl (fun h2 => ?_) (fun h2 => ?_)
      · skip
        refine T.exit ?_
        refine X.then_exit (X.inBlock_ne rfl (X.then_exit (X.inBlock_eq ?_)))
        exact X.at t ⟨ht, hNt⟩ (by repeat (first | exact Sub.nil _ | refine Sub.cons (by first | rfl | (rw [dgs_zero]; rfl) | (rw [List.drop_length]; rfl) | (simp; done) | (congr 2; omega) | (congr 3; omega)) ?_)) (by repeat (first | exact Sub.nil _ | refine Sub.cons (by first | rfl | (rw [dgs_zero]; rfl) | (rw [List.drop_length]; rfl) | (simp; done) | (congr 2; omega) | (congr 3; omega)) ?_))
      · skip
        refine T.skip ?_
        refine X.then ?_
        refine T.text [.l, .l, .l] rfl ?_
        refine J.move rfl rfl ?_
        refine J.sub' rfl rfl rfl (by first | exact sub_nat _ 1 (by omega) | exact i64_ok _ (by omega) | exact rfl) ?_
        refine J.assign rfl rfl ?_
        refine J.end ?_
        refine X.inBlock ?_
        refine X.as 6 (.int .i64 ((t - 1 : Nat) : Int)) rfl (by first | rfl | (congr 1; omega)) ?_
        exact X.round (t - 1) ⟨by omega, by rw [show t - 1 + 1 = t by omega]; exact lim_small_top hNt (by omega)⟩ (by first | omega | (dsimp only; omega)) (by repeat (first | exact Sub.nil _ | refine Sub.cons (by first | rfl | (rw [dgs_zero]; rfl) | (rw [List.drop_length]; rfl) | (simp; done) | (congr 2; omega) | (congr 3; omega)) ?_)) (by repeat (first | exact Sub.nil _ | refine Sub.cons (by first | rfl | (rw [dgs_zero]; rfl) | (rw [List.drop_length]; rfl) | (simp; done) | (congr 2; omega) | (congr 3; omega)) ?_))
    · skip
      refine T.exit ?_
      refine X.then_exit (X.then_exit (X.inBlock_eq ?_))
      exact X.at t ⟨ht, hNt⟩ (by repeat (first | exact Sub.nil _ | refine Sub.cons (by first | rfl | (rw [dgs_zero]; rfl) | (rw [List.drop_length]; rfl) | (simp; done) | (congr 2; omega) | (congr 3; omega)) ?_)) (by repeat (first | exact Sub.nil _ | refine Sub.cons (by first | rfl | (rw [dgs_zero]; rfl) | (rw [List.drop_length]; rfl) | (simp; done) | (congr 2; omega) | (congr 3; omega)) ?_))
  · rintro t ⟨ht, hNt⟩
    refine T.seq ?_
    refine T.label ?_
    refine X.then ?_
    refine T.seq ?_
    refine T.seq ?_
    refine T.text [.l, .l] rfl ?_
    refine J.move rfl rfl ?_
    refine J.assign rfl rfl ?_
    refine J.end ?_
    refine X.then ?_
    refine T.block ?_
    have hNp : N < 2 ^ (64 * (t + 1)) := by rw [pow64]; exact hNt
    refine T.loop (ι := Nat × Nat × Nat) (fun ((i, R, Q) : Nat × Nat × Nat) => i ≤ 7 ∧ R % 2 ^ 256 = N / 2 ^ (64 * (i + 1)) % (x1 % 2 ^ 256) ∧ Q % 2 ^ 256 = hb (N / (x1 % 2 ^ 256)) (64 * (i + 1)) % 2 ^ 256) (fun ((i, R, Q) : Nat × Nat × Nat) => [(0, .agg (lc (N)).toArray), (1, W x1), (2, .pointer (some ⟨g2, 0, none⟩)), (3, .pointer (some ⟨g3, 0, none⟩)), (4, .pointer (some ⟨g4, 0, none⟩)), (5, .pointer (some ⟨g5, 0, none⟩)), (6, .int .i64 (t : Int)), (7, .int .i64 (i : Int))]) (fun ((i, R, Q) : Nat × Nat × Nat) => [(2, ⟨some g2, 67, (lc N)⟩), (3, ⟨some g3, 24, (wc x1)⟩), (4, ⟨some g4, 24, wc Q⟩), (5, ⟨some g5, 24, wc R⟩)]) (fun ((i, R, Q) : Nat × Nat × Nat) => i) ⟨t, 0, 0⟩ ⟨ht, by rw [Nat.div_eq_of_lt hNp, Nat.zero_mod, Nat.zero_mod], by rw [hb_big (Nat.lt_of_le_of_lt (Nat.div_le_self _ _) hNp)]⟩ (by repeat (first | exact Sub.nil _ | refine Sub.cons (by first | rfl | (rw [dgs_zero]; rfl) | (rw [List.drop_length]; rfl) | (simp; done) | (congr 2; omega) | (congr 3; omega)) ?_)) (by repeat (first | exact Sub.nil _ | refine Sub.cons (by first | rfl | (rw [dgs_zero]; rfl) | (rw [List.drop_length]; rfl) | (simp; done) | (congr 2; omega) | (congr 3; omega)) ?_)) ?_
    rintro ⟨i, R, Q⟩ ⟨hi, hR, hQ⟩
    try dsimp only at *
    refine T.seq ?_
    refine T.block ?_
    refine T.seq ?_
    refine T.seq ?_
    refine T.text [.l] rfl ?_
    refine J.assign rfl rfl ?_
    refine J.end ?_
    refine X.then ?_
    refine T.block ?_
    refine T.loop (ι := Nat × Nat × Nat) (fun ((u, R, Q) : Nat × Nat × Nat) => u ≤ 64 ∧ R % 2 ^ 256 = N / 2 ^ (64 * i + u) % (x1 % 2 ^ 256) ∧ Q % 2 ^ 256 = hb (N / (x1 % 2 ^ 256)) (64 * i + u) % 2 ^ 256) (fun ((u, R, Q) : Nat × Nat × Nat) => [(0, .agg (lc (N)).toArray), (1, W x1), (2, .pointer (some ⟨g2, 0, none⟩)), (3, .pointer (some ⟨g3, 0, none⟩)), (4, .pointer (some ⟨g4, 0, none⟩)), (5, .pointer (some ⟨g5, 0, none⟩)), (6, .int .i64 (t : Int)), (7, .int .i64 (i : Int)), (8, .int .i64 ((u : Int) - 1))]) (fun ((u, R, Q) : Nat × Nat × Nat) => [(2, ⟨some g2, 67, (lc N)⟩), (3, ⟨some g3, 24, (wc x1)⟩), (4, ⟨some g4, 24, wc Q⟩), (5, ⟨some g5, 24, wc R⟩)]) (fun ((u, R, Q) : Nat × Nat × Nat) => u) ⟨64, R, Q⟩ ⟨Nat.le_refl _, by rw [show 64 * i + 64 = 64 * (i + 1) by omega]; exact hR, by rw [show 64 * i + 64 = 64 * (i + 1) by omega]; exact hQ⟩ (by repeat (first | exact Sub.nil _ | refine Sub.cons (by first | rfl | (rw [dgs_zero]; rfl) | (rw [List.drop_length]; rfl) | (simp; done) | (congr 2; omega) | (congr 3; omega)) ?_)) (by repeat (first | exact Sub.nil _ | refine Sub.cons (by first | rfl | (rw [dgs_zero]; rfl) | (rw [List.drop_length]; rfl) | (simp; done) | (congr 2; omega) | (congr 3; omega)) ?_)) ?_
    rintro ⟨u, R, Q⟩ ⟨hu, hR, hQ⟩
    try dsimp only at *
    refine T.seq ?_
    refine T.seq ?_
    refine T.text [.l, .l] rfl ?_
    refine J.move rfl rfl ?_
    refine J.geq rfl rfl rfl rfl ?_
    refine J.end ?_
    refine X.then ?_
    refine T.cond_dec rfl (fun h3 => ?_) (fun h3 => ?_)
    · obtain ⟨k, rfl⟩ : ∃ k, u = k + 1 := ⟨u - 1, by omega⟩
      refine T.as 8 (.int .i64 (k : Int)) rfl (by first | rfl | (congr 1; omega)) ?_
      have hds := div_step N (x1 % 2 ^ 256) (64 * i + k) (by omega)
      rw [show 64 * i + k + 1 = 64 * i + (k + 1) by omega, ← hR] at hds
      have hRl := Nat.mod_lt (N / 2 ^ (64 * i + (k + 1))) (show 0 < (x1 % 2 ^ 256) by omega)
      rw [← hR] at hRl
      have hlb := lim_bit N i k (by omega)
      have hbl := bit_lt N (64 * i + k)
      have hov := lim3_top R
      refine T.skip ?_
      refine X.then ?_
      refine T.seq ?_
      refine T.block ?_
      refine T.seq ?_
      refine T.text [.l, .l, .l, .l, .l] rfl ?_
      refine J.indexArr arr24 rfl rfl (by omega) (by omega) (by rfl) rfl ?_
      refine J.load1 (k := .l) trivial 5 rfl rfl one22 (by exact wc_at _ 3 (by omega)) rfl ?_
      have hl26 := lim_lt R 3
      refine J.shr rfl rfl rfl (by decide) (by exact shr63_nat _) ?_
      refine J.eql rfl rfl rfl rfl ?_
      refine J.assign rfl rfl ?_
      refine J.end ?_
      refine X.then ?_
      refine T.seq ?_
      refine T.draw [] [(0, .q), (1, .g), (2, .g), (3, .q), (4, .g), (5, .g), (6, .g), (7, .q), (8, .l)] (by kernel_rfl) (by kernel_rfl) ?_ (by repeat (first | exact Sub.nil _ | refine Sub.cons (by first | rfl | (rw [dgs_zero]; rfl) | (rw [List.drop_length]; rfl) | (simp; done) | (congr 2; omega) | (congr 3; omega)) ?_))
      refine J.loadN (k := .q) trivial 5 rfl rfl agg24 (wc R) rfl rfl rfl ?_
      refine J.move rfl rfl ?_
      refine J.indexArr arr67 rfl rfl (by omega) (by omega) (by first | exact Int.toNat_natCast _ | rfl) rfl ?_
      refine J.load1 (k := .q) trivial 2 rfl rfl one22 (by exact lc_at _ _ (by omega)) rfl ?_
      have hl32 := lim_lt N i
      refine J.move rfl rfl ?_
      refine J.shr rfl rfl rfl (by omega) (by exact shr_nat _ k (by omega)) ?_
      refine J.band rfl rfl rfl (by exact u64_and1 _ (Nat.lt_of_le_of_lt (Nat.div_le_self _ _) hl32)) ?_
      refine J.as 35 (.int .u64 ((N / 2 ^ (64 * i + k) % 2 : Nat) : Int)) rfl (by rw [hlb]) ?_
      refine J.call0 (k := .q) trivial fok147 rfl rfl (fun w hw => Wb.double w _ _ (by omega)) ?_
      refine J.store 5 rfl rfl rfl rfl (wc (2 * R + (N / 2 ^ (64 * i + k) % 2))) rfl sz24 (by first | decide | exact Nat.le_refl _ | exact Nat.le_of_ble_eq_true rfl | (simp [rowN]; done) | (simp [rowN]; omega)) (by first | exact rowN_one _ _ | (simp; done) | (intro u hu; simp at hu; subst hu; rfl) | (intro u hu; simp at hu; rcases hu with rfl | rfl <;> rfl)) (by first | decide | exact Nat.zero_lt_succ _ | simp) trivial (wc (2 * R + (N / 2 ^ (64 * i + k) % 2))) rfl ?_
      refine J.end ?_
      refine X.then ?_
      refine T.seq ?_
      refine T.text [.l, .l, .l, .l, .l, .l, .l] rfl ?_
      refine J.move rfl rfl ?_
      refine J.move rfl rfl ?_
      refine J.split 38 rfl (fun h4 => ?_) (fun h4 => ?_)
      · skip
        refine J.no rfl rfl rfl rfl ?_
        refine J.no rfl rfl rfl rfl ?_
        refine J.no rfl rfl rfl rfl ?_
        refine J.no rfl rfl rfl rfl ?_
        refine J.pick_t rfl rfl rfl ?_
        refine J.end ?_
        refine X.then ?_
        refine T.cond_true rfl ?_
        refine T.seq ?_
        refine T.text [.l, .l, .l, .l] rfl ?_
        refine J.loadN (k := .l) trivial 5 rfl rfl agg24 (wc (2 * R + (N / 2 ^ (64 * i + k) % 2))) rfl rfl rfl ?_
        refine J.loadN (k := .l) trivial 3 rfl rfl agg24 (wc x1) rfl rfl rfl ?_
        refine J.call0 (k := .l) trivial fok25 rfl rfl (fun w hw => Wb.Sub w _ _) ?_
        refine J.store 5 rfl rfl rfl rfl (wc (dif ((2 * R + (N / 2 ^ (64 * i + k) % 2))) x1)) rfl sz24 (by first | decide | exact Nat.le_refl _ | exact Nat.le_of_ble_eq_true rfl | (simp [rowN]; done) | (simp [rowN]; omega)) (by first | exact rowN_one _ _ | (simp; done) | (intro u hu; simp at hu; subst hu; rfl) | (intro u hu; simp at hu; rcases hu with rfl | rfl <;> rfl)) (by first | decide | exact Nat.zero_lt_succ _ | simp) trivial (wc (dif ((2 * R + (N / 2 ^ (64 * i + k) % 2))) x1)) rfl ?_
        refine J.end ?_
        refine X.then ?_
        refine T.seq ?_
        refine T.text [.l, .l] rfl ?_
        refine J.move rfl rfl ?_
        refine J.lss rfl rfl rfl rfl ?_
        refine J.end ?_
        refine X.then ?_
        refine T.cond_dec rfl (fun h5 => ?_) (fun h5 => ?_)
        · skip
          refine T.draw [] [(0, .g), (1, .g), (2, .q), (3, .g), (4, .g), (5, .g), (6, .g), (7, .l)] (by kernel_rfl) (by kernel_rfl) ?_ (by repeat (first | exact Sub.nil _ | refine Sub.cons (by first | rfl | (rw [dgs_zero]; rfl) | (rw [List.drop_length]; rfl) | (simp; done) | (congr 2; omega) | (congr 3; omega)) ?_))
          refine J.move rfl rfl ?_
          refine J.indexArr arr24 rfl rfl (by omega) (by omega) (by first | exact Int.toNat_natCast _ | rfl) rfl ?_
          refine J.load1 (k := .q) trivial 4 rfl rfl one22 (by exact wc_at _ _ (by omega)) rfl ?_
          have hl51 := lim_lt Q i
          refine J.move rfl rfl ?_
          refine J.shl rfl rfl rfl (by omega) (by exact shl_one k (by omega)) ?_
          have hpk : 2 ^ k < 18446744073709551616 := Nat.lt_of_lt_of_le (Nat.pow_lt_pow_right (by omega) (show k < 64 by omega)) (by decide)
          refine J.bor rfl rfl rfl (by exact or_nat _ _ ⟨hl51, hpk⟩) ?_
          refine J.indexArr arr24 rfl rfl (by omega) (by omega) (by first | exact Int.toNat_natCast _ | rfl) rfl ?_
          refine J.store 4 rfl rfl rfl rfl [.int .u64 ((lim Q i ||| 2 ^ k : Nat) : Int)] rfl sz22 (by rw [rowN_length, wl_length]; show _ + 1 ≤ 4; omega) (by first | exact rowN_one _ _ | (simp; done) | (intro u hu; simp at hu; subst hu; rfl) | (intro u hu; simp at hu; rcases hu with rfl | rfl <;> rfl)) (by first | decide | exact Nat.zero_lt_succ _ | simp) trivial (wc (hb (N / (x1 % 2 ^ 256)) (64 * i + k))) (by rw [Nat.zero_add, Nat.mul_one]; exact (putN' _ _ _ _ (by rw [wl_length]; omega)).trans (congrArg (rowN .u64) (hb_set (by omega) (by omega) hQ (by rw [hds.2]; rw [if_neg (by omega)])))) ?_
          refine J.end ?_
          refine X.inBlock (X.then ?_)
          refine T.text [.l, .l, .l] rfl ?_
          refine J.move rfl rfl ?_
          refine J.sub' rfl rfl rfl (by first | exact sub_nat _ 1 (by omega) | exact i64_ok _ (by omega) | exact rfl) ?_
          refine J.assign rfl rfl ?_
          refine J.end ?_
          exact X.round ⟨k, (dif ((2 * R + (N / 2 ^ (64 * i + k) % 2))) x1), (hb (N / (x1 % 2 ^ 256)) (64 * i + k))⟩ ⟨by omega, by rw [hds.1]; (try unfold dif); split <;> omega, rfl⟩ (by first | omega | (dsimp only; omega)) (by repeat (first | exact Sub.nil _ | refine Sub.cons (by first | rfl | (rw [dgs_zero]; rfl) | (rw [List.drop_length]; rfl) | (simp; done) | (congr 2; omega) | (congr 3; omega)) ?_)) (by repeat (first | exact Sub.nil _ | refine Sub.cons (by first | rfl | (rw [dgs_zero]; rfl) | (rw [List.drop_length]; rfl) | (simp; done) | (congr 2; omega) | (congr 3; omega)) ?_))
        · skip
          refine T.skip ?_
          refine X.inBlock (X.then ?_)
          refine T.text [.l, .l, .l] rfl ?_
          refine J.move rfl rfl ?_
          refine J.sub' rfl rfl rfl (by first | exact sub_nat _ 1 (by omega) | exact i64_ok _ (by omega) | exact rfl) ?_
          refine J.assign rfl rfl ?_
          refine J.end ?_
          exact X.round ⟨k, (dif ((2 * R + (N / 2 ^ (64 * i + k) % 2))) x1), Q⟩ ⟨by omega, by rw [hds.1]; (try unfold dif); split <;> omega, by first | (rw [hQ, ← Nat.add_assoc, ← hb_lim0 (by rw [hds.2]; rw [if_pos (by omega)])]) | (rw [hQ, hb_high (by omega), hb_high (by omega)])⟩ (by first | omega | (dsimp only; omega)) (by repeat (first | exact Sub.nil _ | refine Sub.cons (by first | rfl | (rw [dgs_zero]; rfl) | (rw [List.drop_length]; rfl) | (simp; done) | (congr 2; omega) | (congr 3; omega)) ?_)) (by repeat (first | exact Sub.nil _ | refine Sub.cons (by first | rfl | (rw [dgs_zero]; rfl) | (rw [List.drop_length]; rfl) | (simp; done) | (congr 2; omega) | (congr 3; omega)) ?_))
      · skip
        refine J.yes rfl rfl ?_
        refine J.loadN (k := .l) trivial 5 rfl rfl agg24 (wc (2 * R + (N / 2 ^ (64 * i + k) % 2))) rfl rfl rfl ?_
        refine J.yes rfl rfl ?_
        refine J.loadN (k := .l) trivial 3 rfl rfl agg24 (wc x1) rfl rfl rfl ?_
        refine J.yes rfl rfl ?_
        refine J.call0 (k := .l) trivial fok54 rfl rfl (fun w hw => Wa.Lt w _ _) ?_
        refine J.yes rfl rfl ?_
        refine J.not rfl rfl (by rw [← decide_not]) ?_
        refine J.pick_f rfl rfl rfl ?_
        refine J.end ?_
        refine X.then ?_
        refine T.cond_dec rfl (fun h6 => ?_) (fun h6 => ?_)
        · skip
          refine T.seq ?_
          refine T.text [.l, .l, .l, .l] rfl ?_
          refine J.loadN (k := .l) trivial 5 rfl rfl agg24 (wc (2 * R + (N / 2 ^ (64 * i + k) % 2))) rfl rfl rfl ?_
          refine J.loadN (k := .l) trivial 3 rfl rfl agg24 (wc x1) rfl rfl rfl ?_
          refine J.call0 (k := .l) trivial fok25 rfl rfl (fun w hw => Wb.Sub w _ _) ?_
          refine J.store 5 rfl rfl rfl rfl (wc (dif ((2 * R + (N / 2 ^ (64 * i + k) % 2))) x1)) rfl sz24 (by first | decide | exact Nat.le_refl _ | exact Nat.le_of_ble_eq_true rfl | (simp [rowN]; done) | (simp [rowN]; omega)) (by first | exact rowN_one _ _ | (simp; done) | (intro u hu; simp at hu; subst hu; rfl) | (intro u hu; simp at hu; rcases hu with rfl | rfl <;> rfl)) (by first | decide | exact Nat.zero_lt_succ _ | simp) trivial (wc (dif ((2 * R + (N / 2 ^ (64 * i + k) % 2))) x1)) rfl ?_
          refine J.end ?_
          refine X.then ?_
          refine T.seq ?_
          refine T.text [.l, .l] rfl ?_
          refine J.move rfl rfl ?_
          refine J.lss rfl rfl rfl rfl ?_
          refine J.end ?_
          refine X.then ?_
          refine T.cond_dec rfl (fun h7 => ?_) (fun h7 => ?_)
          · skip
            refine T.draw [] [(0, .g), (1, .g), (2, .q), (3, .g), (4, .g), (5, .g), (6, .g), (7, .l)] (by kernel_rfl) (by kernel_rfl) ?_ (by repeat (first | exact Sub.nil _ | refine Sub.cons (by first | rfl | (rw [dgs_zero]; rfl) | (rw [List.drop_length]; rfl) | (simp; done) | (congr 2; omega) | (congr 3; omega)) ?_))
            refine J.move rfl rfl ?_
            refine J.indexArr arr24 rfl rfl (by omega) (by omega) (by first | exact Int.toNat_natCast _ | rfl) rfl ?_
            refine J.load1 (k := .q) trivial 4 rfl rfl one22 (by exact wc_at _ _ (by omega)) rfl ?_
            have hl51 := lim_lt Q i
            refine J.move rfl rfl ?_
            refine J.shl rfl rfl rfl (by omega) (by exact shl_one k (by omega)) ?_
            have hpk : 2 ^ k < 18446744073709551616 := Nat.lt_of_lt_of_le (Nat.pow_lt_pow_right (by omega) (show k < 64 by omega)) (by decide)
            refine J.bor rfl rfl rfl (by exact or_nat _ _ ⟨hl51, hpk⟩) ?_
            refine J.indexArr arr24 rfl rfl (by omega) (by omega) (by first | exact Int.toNat_natCast _ | rfl) rfl ?_
            refine J.store 4 rfl rfl rfl rfl [.int .u64 ((lim Q i ||| 2 ^ k : Nat) : Int)] rfl sz22 (by rw [rowN_length, wl_length]; show _ + 1 ≤ 4; omega) (by first | exact rowN_one _ _ | (simp; done) | (intro u hu; simp at hu; subst hu; rfl) | (intro u hu; simp at hu; rcases hu with rfl | rfl <;> rfl)) (by first | decide | exact Nat.zero_lt_succ _ | simp) trivial (wc (hb (N / (x1 % 2 ^ 256)) (64 * i + k))) (by rw [Nat.zero_add, Nat.mul_one]; exact (putN' _ _ _ _ (by rw [wl_length]; omega)).trans (congrArg (rowN .u64) (hb_set (by omega) (by omega) hQ (by rw [hds.2]; rw [if_neg (by omega)])))) ?_
            refine J.end ?_
            refine X.inBlock (X.then ?_)
            refine T.text [.l, .l, .l] rfl ?_
            refine J.move rfl rfl ?_
            refine J.sub' rfl rfl rfl (by first | exact sub_nat _ 1 (by omega) | exact i64_ok _ (by omega) | exact rfl) ?_
            refine J.assign rfl rfl ?_
            refine J.end ?_
            exact X.round ⟨k, (dif ((2 * R + (N / 2 ^ (64 * i + k) % 2))) x1), (hb (N / (x1 % 2 ^ 256)) (64 * i + k))⟩ ⟨by omega, by rw [hds.1]; (try unfold dif); split <;> omega, rfl⟩ (by first | omega | (dsimp only; omega)) (by repeat (first | exact Sub.nil _ | refine Sub.cons (by first | rfl | (rw [dgs_zero]; rfl) | (rw [List.drop_length]; rfl) | (simp; done) | (congr 2; omega) | (congr 3; omega)) ?_)) (by repeat (first | exact Sub.nil _ | refine Sub.cons (by first | rfl | (rw [dgs_zero]; rfl) | (rw [List.drop_length]; rfl) | (simp; done) | (congr 2; omega) | (congr 3; omega)) ?_))
          · skip
            refine T.skip ?_
            refine X.inBlock (X.then ?_)
            refine T.text [.l, .l, .l] rfl ?_
            refine J.move rfl rfl ?_
            refine J.sub' rfl rfl rfl (by first | exact sub_nat _ 1 (by omega) | exact i64_ok _ (by omega) | exact rfl) ?_
            refine J.assign rfl rfl ?_
            refine J.end ?_
            exact X.round ⟨k, (dif ((2 * R + (N / 2 ^ (64 * i + k) % 2))) x1), Q⟩ ⟨by omega, by rw [hds.1]; (try unfold dif); split <;> omega, by first | (rw [hQ, ← Nat.add_assoc, ← hb_lim0 (by rw [hds.2]; rw [if_pos (by omega)])]) | (rw [hQ, hb_high (by omega), hb_high (by omega)])⟩ (by first | omega | (dsimp only; omega)) (by repeat (first | exact Sub.nil _ | refine Sub.cons (by first | rfl | (rw [dgs_zero]; rfl) | (rw [List.drop_length]; rfl) | (simp; done) | (congr 2; omega) | (congr 3; omega)) ?_)) (by repeat (first | exact Sub.nil _ | refine Sub.cons (by first | rfl | (rw [dgs_zero]; rfl) | (rw [List.drop_length]; rfl) | (simp; done) | (congr 2; omega) | (congr 3; omega)) ?_))
        · skip
          refine T.skip ?_
          refine X.inBlock (X.then ?_)
          refine T.text [.l, .l, .l] rfl ?_
          refine J.move rfl rfl ?_
          refine J.sub' rfl rfl rfl (by first | exact sub_nat _ 1 (by omega) | exact i64_ok _ (by omega) | exact rfl) ?_
          refine J.assign rfl rfl ?_
          refine J.end ?_
          exact X.round ⟨k, (2 * R + (N / 2 ^ (64 * i + k) % 2)), Q⟩ ⟨by omega, by rw [hds.1]; (try unfold dif); split <;> omega, by first | (rw [hQ, ← Nat.add_assoc, ← hb_lim0 (by rw [hds.2]; rw [if_pos (by omega)])]) | (rw [hQ, hb_high (by omega), hb_high (by omega)])⟩ (by first | omega | (dsimp only; omega)) (by repeat (first | exact Sub.nil _ | refine Sub.cons (by first | rfl | (rw [dgs_zero]; rfl) | (rw [List.drop_length]; rfl) | (simp; done) | (congr 2; omega) | (congr 3; omega)) ?_)) (by repeat (first | exact Sub.nil _ | refine Sub.cons (by first | rfl | (rw [dgs_zero]; rfl) | (rw [List.drop_length]; rfl) | (simp; done) | (congr 2; omega) | (congr 3; omega)) ?_))
    · obtain rfl : u = 0 := by omega
      rw [Nat.add_zero] at hR hQ
      refine T.exit ?_
      refine X.then_exit (X.then_exit (X.inBlock_eq (X.then ?_)))
      refine T.seq ?_
      refine T.text [.l, .l] rfl ?_
      refine J.move rfl rfl ?_
      refine J.eql rfl rfl rfl rfl ?_
      refine J.end ?_
      refine X.then ?_
      refine T.cond_dec rfl (fun h8 => ?_) (fun h8 => ?_)
      · obtain rfl : i = 0 := by omega
        refine T.exit ?_
        refine X.inBlock_ne rfl (X.then_exit (X.then_exit (X.inBlock_eq (X.then ?_))))
        refine T.seq ?_
        refine T.draw [(5, ⟨some g5, 24, wc R⟩)] [(0, .q), (1, .s), (2, .l), (3, .l)] (by kernel_rfl) (by kernel_rfl) ?_ (by repeat (first | exact Sub.nil _ | refine Sub.cons (by first | rfl | (rw [dgs_zero]; rfl) | (rw [List.drop_length]; rfl) | (simp; done) | (congr 2; omega) | (congr 3; omega)) ?_))
        refine J.loadN (k := .q) trivial 4 rfl rfl agg24 (wc Q) rfl rfl rfl ?_
        refine J.loadNs 5 rfl rfl agg24 (wc R) rfl rfl rfl ?_
        refine J.storeSame 4 rfl rfl rfl (wc Q) rfl sz24 (Nat.le_of_ble_eq_true rfl) (rowN_one _ _) (by show 0 < 4; omega) trivial (put_all _ _ rfl) ?_
        refine J.storeSame 5 rfl rfl rfl (wc R) rfl sz24 (Nat.le_of_ble_eq_true rfl) (rowN_one _ _) (by show 0 < 4; omega) trivial (put_all _ _ rfl) ?_
        refine J.end ?_
        refine X.then ?_
        refine T.ret ?_
        refine X.scope_ret ?_
        exact X.ret2 rfl (RV.agg 4 rfl rfl agg24 (wc Q) (by rfl) (by rfl) rfl) (RV.agg 5 rfl rfl agg24 (wc R) (by rfl) (by rfl) rfl) (fun w' hw' => ⟨by rw [Nat.mul_zero] at hR hQ; rw [Nat.pow_zero, Nat.div_one] at hR; rw [hb_zero] at hQ; exact congrArg Ending.returned (congrArg Value.tuple (by rw [W_congr (x := N / (x1 % 2 ^ 256)) (y := Q) hQ.symm, W_congr (x := N % (x1 % 2 ^ 256)) (y := R) (by rw [hR]; exact Nat.mod_eq_of_lt (by have := Nat.mod_lt N (show 0 < (x1 % 2 ^ 256) by omega); omega))])), hw'.sub (Sub.nil _)⟩)
      · obtain ⟨i2, rfl⟩ : ∃ i2, i = i2 + 1 := ⟨i - 1, by omega⟩
        refine T.as 7 (.int .i64 ((i2 + 1 : Nat) : Int)) rfl (by first | rfl | (congr 1; omega)) ?_
        refine T.skip ?_
        refine X.inBlock (X.then ?_)
        refine T.text [.l, .l, .l] rfl ?_
        refine J.move rfl rfl ?_
        refine J.sub' rfl rfl rfl (by first | exact sub_nat _ 1 (by omega) | exact i64_ok _ (by omega) | exact rfl) ?_
        refine J.assign rfl rfl ?_
        refine J.end ?_
        exact X.round ⟨i2, R, Q⟩ ⟨by omega, hR, hQ⟩ (by first | omega | (dsimp only; omega)) (by repeat (first | exact Sub.nil _ | refine Sub.cons (by first | rfl | (rw [dgs_zero]; rfl) | (rw [List.drop_length]; rfl) | (simp; done) | (congr 2; omega) | (congr 3; omega)) ?_)) (by repeat (first | exact Sub.nil _ | refine Sub.cons (by first | rfl | (rw [dgs_zero]; rfl) | (rw [List.drop_length]; rfl) | (simp; done) | (congr 2; omega) | (congr 3; omega)) ?_))
end Go.Proofs.YtegociefcfcihaaDoor.Wd
