/-
  Walks, printed by gen.py: what each function hands back, said of numbers.
  Conditions: those that each theorem bears.
-/
import Derived.Test.YtegociefcfcihaaDoorChecked
import Derived.Test.YtegociefcfcihaaDoorFt
import Derived.Test.YtegociefcfcihaaDoorWa
import Derived.Test.YtegociefcfcihaaDoorWb
import Derived.Test.YtegociefcfcihaaDoorWd
set_option linter.unusedVariables false
set_option maxRecDepth 20000
namespace Go.Proofs.YtegociefcfcihaaDoor.We
open Go Go.Fw

theorem sz39 : SizeT Tryd.prog 39 32 := (by unfold SizeT; kernel_rfl)
theorem zero8 : ZeroT Tryd.prog 67 (.agg (rowN .u64 (lg 0)).toArray) := (by unfold ZeroT; kernel_rfl)
theorem zero24 : ZeroT Tryd.prog 24 (.agg ([.int .u64 0, .int .u64 0, .int .u64 0, .int .u64 0]).toArray) := (by unfold ZeroT; kernel_rfl)
theorem sz22 : SizeT Tryd.prog 22 1 := (by unfold SizeT; kernel_rfl)
theorem arr24 : ArrT Tryd.prog 24 4 22 1 := ⟨Tryd.underlying24, sz22⟩
theorem one22 : OneT Tryd.prog 22 := ⟨⟨_, Tryd.underlying22, rfl⟩, by kernel_rfl⟩
theorem agg24 : AggT Tryd.prog 24 4 := ⟨⟨_, Tryd.underlying24, rfl⟩, by kernel_rfl⟩
theorem sz24 : SizeT Tryd.prog 24 4 := (by unfold SizeT; kernel_rfl)
theorem fok25 : FnOk Tryd.prog 25 := FnOk.mk' Tryd.func25 (by kernel_rfl) rfl
theorem fok122 : FnOk Tryd.prog 122 := FnOk.mk' Tryd.func122 (by kernel_rfl) rfl
theorem fok123 : FnOk Tryd.prog 123 := FnOk.mk' Tryd.func123 (by kernel_rfl) rfl
theorem fok81 : FnOk Tryd.prog 81 := FnOk.mk' Tryd.func81 (by kernel_rfl) rfl
theorem fok117 : FnOk Tryd.prog 117 := FnOk.mk' Tryd.func117 (by kernel_rfl) rfl
theorem fok116 : FnOk Tryd.prog 116 := FnOk.mk' Tryd.func116 (by kernel_rfl) rfl
theorem fok107 : FnOk Tryd.prog 107 := FnOk.mk' Tryd.func107 (by kernel_rfl) rfl
theorem fok114 : FnOk Tryd.prog 114 := FnOk.mk' Tryd.func114 (by kernel_rfl) rfl
theorem fok121 : FnOk Tryd.prog 121 := FnOk.mk' Tryd.func121 (by kernel_rfl) rfl
theorem fok29 : FnOk Tryd.prog 29 := FnOk.mk' Tryd.func29 (by kernel_rfl) rfl
theorem fok31 : FnOk Tryd.prog 31 := FnOk.mk' Tryd.func31 (by kernel_rfl) rfl
theorem fok54 : FnOk Tryd.prog 54 := FnOk.mk' Tryd.func54 (by kernel_rfl) rfl
theorem fok61 : FnOk Tryd.prog 61 := FnOk.mk' Tryd.func61 (by kernel_rfl) rfl
theorem fok60 : FnOk Tryd.prog 60 := FnOk.mk' Tryd.func60 (by kernel_rfl) rfl
theorem fok88 : FnOk Tryd.prog 88 := FnOk.mk' Tryd.func88 (by kernel_rfl) rfl
theorem zero39 : ZeroT Tryd.prog 39 (.agg ([.int .u8 0, .int .u8 0, .int .u8 0, .int .u8 0, .int .u8 0, .int .u8 0, .int .u8 0, .int .u8 0, .int .u8 0, .int .u8 0, .int .u8 0, .int .u8 0, .int .u8 0, .int .u8 0, .int .u8 0, .int .u8 0, .int .u8 0, .int .u8 0, .int .u8 0, .int .u8 0, .int .u8 0, .int .u8 0, .int .u8 0, .int .u8 0, .int .u8 0, .int .u8 0, .int .u8 0, .int .u8 0, .int .u8 0, .int .u8 0, .int .u8 0, .int .u8 0]).toArray) := (by unfold ZeroT; kernel_rfl)
theorem sz5 : SizeT Tryd.prog 5 1 := (by unfold SizeT; kernel_rfl)
theorem arr39 : ArrT Tryd.prog 39 32 5 1 := ⟨Tryd.underlying39, sz5⟩
theorem one5 : OneT Tryd.prog 5 := ⟨⟨_, Tryd.underlying5, rfl⟩, by kernel_rfl⟩
theorem fok27 : FnOk Tryd.prog 27 := FnOk.mk' Tryd.func27 (by kernel_rfl) rfl
theorem fok59 : FnOk Tryd.prog 59 := FnOk.mk' Tryd.func59 (by kernel_rfl) rfl
theorem fok42 : FnOk Tryd.prog 42 := FnOk.mk' Tryd.func42 (by kernel_rfl) rfl
theorem fok134 : FnOk Tryd.prog 134 := FnOk.mk' Tryd.func134 (by kernel_rfl) rfl
theorem fok38 : FnOk Tryd.prog 38 := FnOk.mk' Tryd.func38 (by kernel_rfl) rfl
theorem eqw24 : EqT Tryd.prog 24 := ⟨⟨22, arr24, one22, Tryd.underlying22⟩, by kernel_rfl⟩

theorem And (w : World) (x0 : Nat) (x1 : Nat) :
    Calls Tryd.prog 62 [W x0, W x1].toArray w fun e w' => e = .returned (W (x0 &&& x1)) ∧ WS w [] [] w' := by
  refine calls_of_T [] 19 [] Tryd.func62 rfl Tryd.ntmps62 (by simp) (WS.refl _ _) ?_
  refine T.seq ?_
  refine T.text [.l, .l, .l] rfl ?_
  refine J.box 2 rfl rfl (wc x0) rfl rfl (fun g2 hg2 => ?_)
  refine J.box 3 rfl rfl (wc x1) rfl rfl (fun g3 hg3 => ?_)
  refine J.alloc 4 rfl zero24 [.int .u64 0, .int .u64 0, .int .u64 0, .int .u64 0] rfl rfl (fun g4 hg4 => ?_)
  refine J.end ?_
  refine X.then ?_
  refine T.seq ?_
  refine T.seq ?_
  refine T.text [.l] rfl ?_
  refine J.move rfl rfl ?_
  refine J.end ?_
  refine X.then ?_
  refine T.block ?_
  refine T.loop (ι := Nat × List Nat) (fun ((i, ys) : Nat × List Nat) => i ≤ 4 ∧ ys.length = 4 ∧ (∀ q, q < i → ys.getD q 0 = lim (x0 &&& x1) q) ∧ ∀ q, i ≤ q → q < 4 → ys.getD q 0 = lim x0 q) (fun ((i, ys) : Nat × List Nat) => [(0, W x0), (1, W x1), (2, .pointer (some ⟨g2, 0, none⟩)), (3, .pointer (some ⟨g3, 0, none⟩)), (4, .pointer (some ⟨g4, 0, none⟩)), (6, .int .i64 (i : Int))]) (fun ((i, ys) : Nat × List Nat) => [(3, ⟨some g3, 24, (wc x1)⟩), (4, ⟨some g4, 24, [.int .u64 0, .int .u64 0, .int .u64 0, .int .u64 0]⟩), (2, ⟨some g2, 24, rowN .u64 ys⟩)]) (fun ((i, ys) : Nat × List Nat) => 4 - i) ⟨0, (wl x0)⟩ ⟨Nat.zero_le _, rfl, fun q hq => by omega, fun q _ hq => wl_get x0 q hq⟩ (by repeat (first | exact Sub.nil _ | refine Sub.cons (by first | rfl | (rw [dgs_zero]; rfl) | (rw [List.drop_length]; rfl) | (simp; done) | (congr 2; omega) | (congr 3; omega)) ?_)) (by repeat (first | exact Sub.nil _ | refine Sub.cons (by first | rfl | (rw [dgs_zero]; rfl) | (rw [List.drop_length]; rfl) | (simp; done) | (congr 2; omega) | (congr 3; omega)) ?_)) ?_
  rintro ⟨i, ys⟩ ⟨hi, hl, hy, hz⟩
  try dsimp only at *
  refine T.seq ?_
  refine T.text [.l] rfl ?_
  refine J.lss rfl rfl rfl rfl ?_
  refine J.end ?_
  refine X.then ?_
  refine T.seq ?_
  refine T.cond_dec rfl (fun h1 => ?_) (fun h1 => ?_)
  · have hi4 : i < 4 := by omega
    have hyi := hz i (Nat.le_refl _) hi4
    have hll := lim_lt x0 i
    have hzl := lim_and x0 x1 i
    refine T.skip ?_
    refine X.then ?_
    refine T.seq ?_
    refine T.block ?_
    refine T.seq ?_
    refine T.text [.l, .l] rfl ?_
    refine J.move rfl rfl ?_
    refine J.assign rfl rfl ?_
    refine J.end ?_
    refine X.then ?_
    refine T.draw [] [(0, .g), (1, .g), (2, .q), (3, .g), (4, .g), (5, .q), (6, .g), (7, .g), (8, .l)] (by kernel_rfl) (by kernel_rfl) ?_ (by repeat (first | exact Sub.nil _ | refine Sub.cons (by first | rfl | (rw [dgs_zero]; rfl) | (rw [List.drop_length]; rfl) | (simp; done) | (congr 2; omega) | (congr 3; omega)) ?_))
    refine J.move rfl rfl ?_
    refine J.indexArr arr24 rfl rfl (by omega) (by omega) (by first | exact Int.toNat_natCast _ | rfl) rfl ?_
    refine J.load1 (k := .q) trivial 2 rfl rfl one22 (by exact rowN_get0 _ _ _ (by omega)) rfl ?_
    refine J.as 11 (.int .u64 ((lim x0 i : Nat) : Int)) rfl (by rw [hyi]) ?_
    refine J.move rfl rfl ?_
    refine J.indexArr arr24 rfl rfl (by omega) (by omega) (by first | exact Int.toNat_natCast _ | rfl) rfl ?_
    refine J.load1 (k := .q) trivial 3 rfl rfl one22 (by exact wc_at _ _ (by omega)) rfl ?_
    have hl14 := lim_lt x1 i
    refine J.band rfl rfl rfl (by exact and64_nat _ _ (by omega)) ?_
    refine J.as 15 (.int .u64 ((lim (x0 &&& x1) i : Nat) : Int)) rfl (by rw [hzl]) ?_
    refine J.indexArr arr24 rfl rfl (by omega) (by omega) (by first | exact Int.toNat_natCast _ | rfl) rfl ?_
    refine J.store 2 rfl rfl rfl rfl [.int .u64 ((lim (x0 &&& x1) i : Nat) : Int)] rfl sz22 (by rw [rowN_length, hl]; show _ + 1 ≤ 4; omega) (by first | exact rowN_one _ _ | (simp; done) | (intro u hu; simp at hu; subst hu; rfl) | (intro u hu; simp at hu; rcases hu with rfl | rfl <;> rfl)) (by first | decide | exact Nat.zero_lt_succ _ | simp) trivial (rowN .u64 (ys.set i (lim (x0 &&& x1) i))) (by rw [Nat.zero_add, Nat.mul_one]; exact putN' _ _ _ _ (by omega)) ?_
    refine J.end ?_
    refine X.inBlock (X.then ?_)
    refine T.text [.l, .l] rfl ?_
    refine J.add rfl rfl rfl (by first | exact add_nat _ 1 (by omega) | exact i64_ok _ (by omega) | exact rfl) ?_
    refine J.move rfl rfl ?_
    refine J.end ?_
    exact X.round ⟨(i + 1), (ys.set i (lim (x0 &&& x1) i))⟩ ⟨by omega, by simp [hl], set_low hl hi4 hy rfl, set_high hl hi4 hz⟩ (by first | omega | (dsimp only; omega)) (by repeat (first | exact Sub.nil _ | refine Sub.cons (by first | rfl | (rw [dgs_zero]; rfl) | (rw [List.drop_length]; rfl) | (simp; done) | (congr 2; omega) | (congr 3; omega)) ?_)) (by repeat (first | exact Sub.nil _ | refine Sub.cons (by first | rfl | (rw [dgs_zero]; rfl) | (rw [List.drop_length]; rfl) | (simp; done) | (congr 2; omega) | (congr 3; omega)) ?_))
  · obtain rfl : i = 4 := by omega
    obtain rfl : ys = wl (x0 &&& x1) := wl_of hl _ hy
    refine T.exit ?_
    refine X.then_exit (X.then_exit (X.inBlock_eq (X.then ?_)))
    refine T.seq ?_
    refine T.text [.l, .l] rfl ?_
    refine J.loadN (k := .l) trivial 2 rfl rfl agg24 (wc (x0 &&& x1)) rfl rfl rfl ?_
    refine J.store 4 rfl rfl rfl rfl (wc (x0 &&& x1)) rfl sz24 (by first | decide | exact Nat.le_refl _ | exact Nat.le_of_ble_eq_true rfl | (simp [rowN]; done) | (simp [rowN]; omega)) (by first | exact rowN_one _ _ | (simp; done) | (intro u hu; simp at hu; subst hu; rfl) | (intro u hu; simp at hu; rcases hu with rfl | rfl <;> rfl)) (by first | decide | exact Nat.zero_lt_succ _ | simp) trivial (wc (x0 &&& x1)) rfl ?_
    refine J.end ?_
    refine X.then ?_
    refine T.ret ?_
    exact X.ret1 rfl (RV.agg 4 rfl rfl agg24 (wc (x0 &&& x1)) (by rfl) (by rfl) rfl) (fun w' hw' => ⟨rfl, hw'.sub (Sub.nil _)⟩)

theorem Or (w : World) (x0 : Nat) (x1 : Nat) :
    Calls Tryd.prog 64 [W x0, W x1].toArray w fun e w' => e = .returned (W (x0 ||| x1)) ∧ WS w [] [] w' := by
  refine calls_of_T [] 19 [] Tryd.func64 rfl Tryd.ntmps64 (by simp) (WS.refl _ _) ?_
  refine T.seq ?_
  refine T.text [.l, .l, .l] rfl ?_
  refine J.box 2 rfl rfl (wc x0) rfl rfl (fun g2 hg2 => ?_)
  refine J.box 3 rfl rfl (wc x1) rfl rfl (fun g3 hg3 => ?_)
  refine J.alloc 4 rfl zero24 [.int .u64 0, .int .u64 0, .int .u64 0, .int .u64 0] rfl rfl (fun g4 hg4 => ?_)
  refine J.end ?_
  refine X.then ?_
  refine T.seq ?_
  refine T.seq ?_
  refine T.text [.l] rfl ?_
  refine J.move rfl rfl ?_
  refine J.end ?_
  refine X.then ?_
  refine T.block ?_
  refine T.loop (ι := Nat × List Nat) (fun ((i, ys) : Nat × List Nat) => i ≤ 4 ∧ ys.length = 4 ∧ (∀ q, q < i → ys.getD q 0 = lim (x0 ||| x1) q) ∧ ∀ q, i ≤ q → q < 4 → ys.getD q 0 = lim x0 q) (fun ((i, ys) : Nat × List Nat) => [(0, W x0), (1, W x1), (2, .pointer (some ⟨g2, 0, none⟩)), (3, .pointer (some ⟨g3, 0, none⟩)), (4, .pointer (some ⟨g4, 0, none⟩)), (6, .int .i64 (i : Int))]) (fun ((i, ys) : Nat × List Nat) => [(3, ⟨some g3, 24, (wc x1)⟩), (4, ⟨some g4, 24, [.int .u64 0, .int .u64 0, .int .u64 0, .int .u64 0]⟩), (2, ⟨some g2, 24, rowN .u64 ys⟩)]) (fun ((i, ys) : Nat × List Nat) => 4 - i) ⟨0, (wl x0)⟩ ⟨Nat.zero_le _, rfl, fun q hq => by omega, fun q _ hq => wl_get x0 q hq⟩ (by repeat (first | exact Sub.nil _ | refine Sub.cons (by first | rfl | (rw [dgs_zero]; rfl) | (rw [List.drop_length]; rfl) | (simp; done) | (congr 2; omega) | (congr 3; omega)) ?_)) (by repeat (first | exact Sub.nil _ | refine Sub.cons (by first | rfl | (rw [dgs_zero]; rfl) | (rw [List.drop_length]; rfl) | (simp; done) | (congr 2; omega) | (congr 3; omega)) ?_)) ?_
  rintro ⟨i, ys⟩ ⟨hi, hl, hy, hz⟩
  try dsimp only at *
  refine T.seq ?_
  refine T.text [.l] rfl ?_
  refine J.lss rfl rfl rfl rfl ?_
  refine J.end ?_
  refine X.then ?_
  refine T.seq ?_
  refine T.cond_dec rfl (fun h1 => ?_) (fun h1 => ?_)
  · have hi4 : i < 4 := by omega
    have hyi := hz i (Nat.le_refl _) hi4
    have hll := lim_lt x0 i
    have hzl := lim_or x0 x1 i
    refine T.skip ?_
    refine X.then ?_
    refine T.seq ?_
    refine T.block ?_
    refine T.seq ?_
    refine T.text [.l, .l] rfl ?_
    refine J.move rfl rfl ?_
    refine J.assign rfl rfl ?_
    refine J.end ?_
    refine X.then ?_
    refine T.draw [] [(0, .g), (1, .g), (2, .q), (3, .g), (4, .g), (5, .q), (6, .g), (7, .g), (8, .l)] (by kernel_rfl) (by kernel_rfl) ?_ (by repeat (first | exact Sub.nil _ | refine Sub.cons (by first | rfl | (rw [dgs_zero]; rfl) | (rw [List.drop_length]; rfl) | (simp; done) | (congr 2; omega) | (congr 3; omega)) ?_))
    refine J.move rfl rfl ?_
    refine J.indexArr arr24 rfl rfl (by omega) (by omega) (by first | exact Int.toNat_natCast _ | rfl) rfl ?_
    refine J.load1 (k := .q) trivial 2 rfl rfl one22 (by exact rowN_get0 _ _ _ (by omega)) rfl ?_
    refine J.as 11 (.int .u64 ((lim x0 i : Nat) : Int)) rfl (by rw [hyi]) ?_
    refine J.move rfl rfl ?_
    refine J.indexArr arr24 rfl rfl (by omega) (by omega) (by first | exact Int.toNat_natCast _ | rfl) rfl ?_
    refine J.load1 (k := .q) trivial 3 rfl rfl one22 (by exact wc_at _ _ (by omega)) rfl ?_
    have hl14 := lim_lt x1 i
    refine J.bor rfl rfl rfl (by exact or_nat _ _ (by omega)) ?_
    refine J.as 15 (.int .u64 ((lim (x0 ||| x1) i : Nat) : Int)) rfl (by rw [hzl]) ?_
    refine J.indexArr arr24 rfl rfl (by omega) (by omega) (by first | exact Int.toNat_natCast _ | rfl) rfl ?_
    refine J.store 2 rfl rfl rfl rfl [.int .u64 ((lim (x0 ||| x1) i : Nat) : Int)] rfl sz22 (by rw [rowN_length, hl]; show _ + 1 ≤ 4; omega) (by first | exact rowN_one _ _ | (simp; done) | (intro u hu; simp at hu; subst hu; rfl) | (intro u hu; simp at hu; rcases hu with rfl | rfl <;> rfl)) (by first | decide | exact Nat.zero_lt_succ _ | simp) trivial (rowN .u64 (ys.set i (lim (x0 ||| x1) i))) (by rw [Nat.zero_add, Nat.mul_one]; exact putN' _ _ _ _ (by omega)) ?_
    refine J.end ?_
    refine X.inBlock (X.then ?_)
    refine T.text [.l, .l] rfl ?_
    refine J.add rfl rfl rfl (by first | exact add_nat _ 1 (by omega) | exact i64_ok _ (by omega) | exact rfl) ?_
    refine J.move rfl rfl ?_
    refine J.end ?_
    exact X.round ⟨(i + 1), (ys.set i (lim (x0 ||| x1) i))⟩ ⟨by omega, by simp [hl], set_low hl hi4 hy rfl, set_high hl hi4 hz⟩ (by first | omega | (dsimp only; omega)) (by repeat (first | exact Sub.nil _ | refine Sub.cons (by first | rfl | (rw [dgs_zero]; rfl) | (rw [List.drop_length]; rfl) | (simp; done) | (congr 2; omega) | (congr 3; omega)) ?_)) (by repeat (first | exact Sub.nil _ | refine Sub.cons (by first | rfl | (rw [dgs_zero]; rfl) | (rw [List.drop_length]; rfl) | (simp; done) | (congr 2; omega) | (congr 3; omega)) ?_))
  · obtain rfl : i = 4 := by omega
    obtain rfl : ys = wl (x0 ||| x1) := wl_of hl _ hy
    refine T.exit ?_
    refine X.then_exit (X.then_exit (X.inBlock_eq (X.then ?_)))
    refine T.seq ?_
    refine T.text [.l, .l] rfl ?_
    refine J.loadN (k := .l) trivial 2 rfl rfl agg24 (wc (x0 ||| x1)) rfl rfl rfl ?_
    refine J.store 4 rfl rfl rfl rfl (wc (x0 ||| x1)) rfl sz24 (by first | decide | exact Nat.le_refl _ | exact Nat.le_of_ble_eq_true rfl | (simp [rowN]; done) | (simp [rowN]; omega)) (by first | exact rowN_one _ _ | (simp; done) | (intro u hu; simp at hu; subst hu; rfl) | (intro u hu; simp at hu; rcases hu with rfl | rfl <;> rfl)) (by first | decide | exact Nat.zero_lt_succ _ | simp) trivial (wc (x0 ||| x1)) rfl ?_
    refine J.end ?_
    refine X.then ?_
    refine T.ret ?_
    exact X.ret1 rfl (RV.agg 4 rfl rfl agg24 (wc (x0 ||| x1)) (by rfl) (by rfl) rfl) (fun w' hw' => ⟨rfl, hw'.sub (Sub.nil _)⟩)

theorem Xor (w : World) (x0 : Nat) (x1 : Nat) :
    Calls Tryd.prog 66 [W x0, W x1].toArray w fun e w' => e = .returned (W (x0 ^^^ x1)) ∧ WS w [] [] w' := by
  refine calls_of_T [] 19 [] Tryd.func66 rfl Tryd.ntmps66 (by simp) (WS.refl _ _) ?_
  refine T.seq ?_
  refine T.text [.l, .l, .l] rfl ?_
  refine J.box 2 rfl rfl (wc x0) rfl rfl (fun g2 hg2 => ?_)
  refine J.box 3 rfl rfl (wc x1) rfl rfl (fun g3 hg3 => ?_)
  refine J.alloc 4 rfl zero24 [.int .u64 0, .int .u64 0, .int .u64 0, .int .u64 0] rfl rfl (fun g4 hg4 => ?_)
  refine J.end ?_
  refine X.then ?_
  refine T.seq ?_
  refine T.seq ?_
  refine T.text [.l] rfl ?_
  refine J.move rfl rfl ?_
  refine J.end ?_
  refine X.then ?_
  refine T.block ?_
  refine T.loop (ι := Nat × List Nat) (fun ((i, ys) : Nat × List Nat) => i ≤ 4 ∧ ys.length = 4 ∧ (∀ q, q < i → ys.getD q 0 = lim (x0 ^^^ x1) q) ∧ ∀ q, i ≤ q → q < 4 → ys.getD q 0 = lim x0 q) (fun ((i, ys) : Nat × List Nat) => [(0, W x0), (1, W x1), (2, .pointer (some ⟨g2, 0, none⟩)), (3, .pointer (some ⟨g3, 0, none⟩)), (4, .pointer (some ⟨g4, 0, none⟩)), (6, .int .i64 (i : Int))]) (fun ((i, ys) : Nat × List Nat) => [(3, ⟨some g3, 24, (wc x1)⟩), (4, ⟨some g4, 24, [.int .u64 0, .int .u64 0, .int .u64 0, .int .u64 0]⟩), (2, ⟨some g2, 24, rowN .u64 ys⟩)]) (fun ((i, ys) : Nat × List Nat) => 4 - i) ⟨0, (wl x0)⟩ ⟨Nat.zero_le _, rfl, fun q hq => by omega, fun q _ hq => wl_get x0 q hq⟩ (by repeat (first | exact Sub.nil _ | refine Sub.cons (by first | rfl | (rw [dgs_zero]; rfl) | (rw [List.drop_length]; rfl) | (simp; done) | (congr 2; omega) | (congr 3; omega)) ?_)) (by repeat (first | exact Sub.nil _ | refine Sub.cons (by first | rfl | (rw [dgs_zero]; rfl) | (rw [List.drop_length]; rfl) | (simp; done) | (congr 2; omega) | (congr 3; omega)) ?_)) ?_
  rintro ⟨i, ys⟩ ⟨hi, hl, hy, hz⟩
  try dsimp only at *
  refine T.seq ?_
  refine T.text [.l] rfl ?_
  refine J.lss rfl rfl rfl rfl ?_
  refine J.end ?_
  refine X.then ?_
  refine T.seq ?_
  refine T.cond_dec rfl (fun h1 => ?_) (fun h1 => ?_)
  · have hi4 : i < 4 := by omega
    have hyi := hz i (Nat.le_refl _) hi4
    have hll := lim_lt x0 i
    have hzl := lim_xor x0 x1 i
    refine T.skip ?_
    refine X.then ?_
    refine T.seq ?_
    refine T.block ?_
    refine T.seq ?_
    refine T.text [.l, .l] rfl ?_
    refine J.move rfl rfl ?_
    refine J.assign rfl rfl ?_
    refine J.end ?_
    refine X.then ?_
    refine T.draw [] [(0, .g), (1, .g), (2, .q), (3, .g), (4, .g), (5, .q), (6, .g), (7, .g), (8, .l)] (by kernel_rfl) (by kernel_rfl) ?_ (by repeat (first | exact Sub.nil _ | refine Sub.cons (by first | rfl | (rw [dgs_zero]; rfl) | (rw [List.drop_length]; rfl) | (simp; done) | (congr 2; omega) | (congr 3; omega)) ?_))
    refine J.move rfl rfl ?_
    refine J.indexArr arr24 rfl rfl (by omega) (by omega) (by first | exact Int.toNat_natCast _ | rfl) rfl ?_
    refine J.load1 (k := .q) trivial 2 rfl rfl one22 (by exact rowN_get0 _ _ _ (by omega)) rfl ?_
    refine J.as 11 (.int .u64 ((lim x0 i : Nat) : Int)) rfl (by rw [hyi]) ?_
    refine J.move rfl rfl ?_
    refine J.indexArr arr24 rfl rfl (by omega) (by omega) (by first | exact Int.toNat_natCast _ | rfl) rfl ?_
    refine J.load1 (k := .q) trivial 3 rfl rfl one22 (by exact wc_at _ _ (by omega)) rfl ?_
    have hl14 := lim_lt x1 i
    refine J.bxor rfl rfl rfl (by exact xor64_nat _ _ (by omega)) ?_
    refine J.as 15 (.int .u64 ((lim (x0 ^^^ x1) i : Nat) : Int)) rfl (by rw [hzl]) ?_
    refine J.indexArr arr24 rfl rfl (by omega) (by omega) (by first | exact Int.toNat_natCast _ | rfl) rfl ?_
    refine J.store 2 rfl rfl rfl rfl [.int .u64 ((lim (x0 ^^^ x1) i : Nat) : Int)] rfl sz22 (by rw [rowN_length, hl]; show _ + 1 ≤ 4; omega) (by first | exact rowN_one _ _ | (simp; done) | (intro u hu; simp at hu; subst hu; rfl) | (intro u hu; simp at hu; rcases hu with rfl | rfl <;> rfl)) (by first | decide | exact Nat.zero_lt_succ _ | simp) trivial (rowN .u64 (ys.set i (lim (x0 ^^^ x1) i))) (by rw [Nat.zero_add, Nat.mul_one]; exact putN' _ _ _ _ (by omega)) ?_
    refine J.end ?_
    refine X.inBlock (X.then ?_)
    refine T.text [.l, .l] rfl ?_
    refine J.add rfl rfl rfl (by first | exact add_nat _ 1 (by omega) | exact i64_ok _ (by omega) | exact rfl) ?_
    refine J.move rfl rfl ?_
    refine J.end ?_
    exact X.round ⟨(i + 1), (ys.set i (lim (x0 ^^^ x1) i))⟩ ⟨by omega, by simp [hl], set_low hl hi4 hy rfl, set_high hl hi4 hz⟩ (by first | omega | (dsimp only; omega)) (by repeat (first | exact Sub.nil _ | refine Sub.cons (by first | rfl | (rw [dgs_zero]; rfl) | (rw [List.drop_length]; rfl) | (simp; done) | (congr 2; omega) | (congr 3; omega)) ?_)) (by repeat (first | exact Sub.nil _ | refine Sub.cons (by first | rfl | (rw [dgs_zero]; rfl) | (rw [List.drop_length]; rfl) | (simp; done) | (congr 2; omega) | (congr 3; omega)) ?_))
  · obtain rfl : i = 4 := by omega
    obtain rfl : ys = wl (x0 ^^^ x1) := wl_of hl _ hy
    refine T.exit ?_
    refine X.then_exit (X.then_exit (X.inBlock_eq (X.then ?_)))
    refine T.seq ?_
    refine T.text [.l, .l] rfl ?_
    refine J.loadN (k := .l) trivial 2 rfl rfl agg24 (wc (x0 ^^^ x1)) rfl rfl rfl ?_
    refine J.store 4 rfl rfl rfl rfl (wc (x0 ^^^ x1)) rfl sz24 (by first | decide | exact Nat.le_refl _ | exact Nat.le_of_ble_eq_true rfl | (simp [rowN]; done) | (simp [rowN]; omega)) (by first | exact rowN_one _ _ | (simp; done) | (intro u hu; simp at hu; subst hu; rfl) | (intro u hu; simp at hu; rcases hu with rfl | rfl <;> rfl)) (by first | decide | exact Nat.zero_lt_succ _ | simp) trivial (wc (x0 ^^^ x1)) rfl ?_
    refine J.end ?_
    refine X.then ?_
    refine T.ret ?_
    exact X.ret1 rfl (RV.agg 4 rfl rfl agg24 (wc (x0 ^^^ x1)) (by rfl) (by rfl) rfl) (fun w' hw' => ⟨rfl, hw'.sub (Sub.nil _)⟩)

theorem Not (w : World) (x0 : Nat) :
    Calls Tryd.prog 61 [W x0].toArray w fun e w' => e = .returned (W (notN x0)) ∧ WS w [] [] w' := by
  refine calls_of_T [] 15 [] Tryd.func61 rfl Tryd.ntmps61 (by simp) (WS.refl _ _) ?_
  refine T.seq ?_
  refine T.text [.l, .l] rfl ?_
  refine J.box 1 rfl rfl (wc x0) rfl rfl (fun g1 hg1 => ?_)
  refine J.alloc 2 rfl zero24 [.int .u64 0, .int .u64 0, .int .u64 0, .int .u64 0] rfl rfl (fun g2 hg2 => ?_)
  refine J.end ?_
  refine X.then ?_
  refine T.seq ?_
  refine T.seq ?_
  refine T.text [.l] rfl ?_
  refine J.move rfl rfl ?_
  refine J.end ?_
  refine X.then ?_
  refine T.block ?_
  refine T.loop (ι := Nat × List Nat) (fun ((i, ys) : Nat × List Nat) => i ≤ 4 ∧ ys.length = 4 ∧ (∀ q, q < i → ys.getD q 0 = lim (notN x0) q) ∧ ∀ q, i ≤ q → q < 4 → ys.getD q 0 = lim x0 q) (fun ((i, ys) : Nat × List Nat) => [(0, W x0), (1, .pointer (some ⟨g1, 0, none⟩)), (2, .pointer (some ⟨g2, 0, none⟩)), (4, .int .i64 (i : Int))]) (fun ((i, ys) : Nat × List Nat) => [(2, ⟨some g2, 24, [.int .u64 0, .int .u64 0, .int .u64 0, .int .u64 0]⟩), (1, ⟨some g1, 24, rowN .u64 ys⟩)]) (fun ((i, ys) : Nat × List Nat) => 4 - i) ⟨0, (wl x0)⟩ ⟨Nat.zero_le _, rfl, fun q hq => by omega, fun q _ hq => wl_get x0 q hq⟩ (by repeat (first | exact Sub.nil _ | refine Sub.cons (by first | rfl | (rw [dgs_zero]; rfl) | (rw [List.drop_length]; rfl) | (simp; done) | (congr 2; omega) | (congr 3; omega)) ?_)) (by repeat (first | exact Sub.nil _ | refine Sub.cons (by first | rfl | (rw [dgs_zero]; rfl) | (rw [List.drop_length]; rfl) | (simp; done) | (congr 2; omega) | (congr 3; omega)) ?_)) ?_
  rintro ⟨i, ys⟩ ⟨hi, hl, hy, hz⟩
  try dsimp only at *
  refine T.seq ?_
  refine T.text [.l] rfl ?_
  refine J.lss rfl rfl rfl rfl ?_
  refine J.end ?_
  refine X.then ?_
  refine T.seq ?_
  refine T.cond_dec rfl (fun h1 => ?_) (fun h1 => ?_)
  · have hi4 : i < 4 := by omega
    have hyi := hz i (Nat.le_refl _) hi4
    have hll := lim_lt x0 i
    have hzl := lim_not x0 i hi4
    refine T.skip ?_
    refine X.then ?_
    refine T.seq ?_
    refine T.block ?_
    refine T.seq ?_
    refine T.text [.l, .l] rfl ?_
    refine J.move rfl rfl ?_
    refine J.assign rfl rfl ?_
    refine J.end ?_
    refine X.then ?_
    refine T.text [.l, .l, .l, .l, .l, .l, .l] rfl ?_
    refine J.move rfl rfl ?_
    refine J.move rfl rfl ?_
    refine J.indexArr arr24 rfl rfl (by omega) (by omega) (by first | exact Int.toNat_natCast _ | rfl) rfl ?_
    refine J.load1 (k := .l) trivial 1 rfl rfl one22 (by exact rowN_get0 _ _ _ (by omega)) rfl ?_
    refine J.as 10 (.int .u64 ((lim x0 i : Nat) : Int)) rfl (by rw [hyi]) ?_
    refine J.compl rfl rfl (by exact compl64_nat _ hll) ?_
    refine J.as 11 (.int .u64 ((lim (notN x0) i : Nat) : Int)) rfl (by rw [hzl]) ?_
    refine J.indexArr arr24 rfl rfl (by omega) (by omega) (by first | exact Int.toNat_natCast _ | rfl) rfl ?_
    refine J.store 1 rfl rfl rfl rfl [.int .u64 ((lim (notN x0) i : Nat) : Int)] rfl sz22 (by rw [rowN_length, hl]; show _ + 1 ≤ 4; omega) (by first | exact rowN_one _ _ | (simp; done) | (intro u hu; simp at hu; subst hu; rfl) | (intro u hu; simp at hu; rcases hu with rfl | rfl <;> rfl)) (by first | decide | exact Nat.zero_lt_succ _ | simp) trivial (rowN .u64 (ys.set i (lim (notN x0) i))) (by rw [Nat.zero_add, Nat.mul_one]; exact putN' _ _ _ _ (by omega)) ?_
    refine J.end ?_
    refine X.inBlock (X.then ?_)
    refine T.text [.l, .l] rfl ?_
    refine J.add rfl rfl rfl (by first | exact add_nat _ 1 (by omega) | exact i64_ok _ (by omega) | exact rfl) ?_
    refine J.move rfl rfl ?_
    refine J.end ?_
    exact X.round ⟨(i + 1), (ys.set i (lim (notN x0) i))⟩ ⟨by omega, by simp [hl], set_low hl hi4 hy rfl, set_high hl hi4 hz⟩ (by first | omega | (dsimp only; omega)) (by repeat (first | exact Sub.nil _ | refine Sub.cons (by first | rfl | (rw [dgs_zero]; rfl) | (rw [List.drop_length]; rfl) | (simp; done) | (congr 2; omega) | (congr 3; omega)) ?_)) (by repeat (first | exact Sub.nil _ | refine Sub.cons (by first | rfl | (rw [dgs_zero]; rfl) | (rw [List.drop_length]; rfl) | (simp; done) | (congr 2; omega) | (congr 3; omega)) ?_))
  · obtain rfl : i = 4 := by omega
    obtain rfl : ys = wl (notN x0) := wl_of hl _ hy
    refine T.exit ?_
    refine X.then_exit (X.then_exit (X.inBlock_eq (X.then ?_)))
    refine T.seq ?_
    refine T.text [.l, .l] rfl ?_
    refine J.loadN (k := .l) trivial 1 rfl rfl agg24 (wc (notN x0)) rfl rfl rfl ?_
    refine J.store 2 rfl rfl rfl rfl (wc (notN x0)) rfl sz24 (by first | decide | exact Nat.le_refl _ | exact Nat.le_of_ble_eq_true rfl | (simp [rowN]; done) | (simp [rowN]; omega)) (by first | exact rowN_one _ _ | (simp; done) | (intro u hu; simp at hu; subst hu; rfl) | (intro u hu; simp at hu; rcases hu with rfl | rfl <;> rfl)) (by first | decide | exact Nat.zero_lt_succ _ | simp) trivial (wc (notN x0)) rfl ?_
    refine J.end ?_
    refine X.then ?_
    refine T.ret ?_
    exact X.ret1 rfl (RV.agg 2 rfl rfl agg24 (wc (notN x0)) (by rfl) (by rfl) rfl) (fun w' hw' => ⟨rfl, hw'.sub (Sub.nil _)⟩)

theorem below (w : World) (x0 : Nat) :
    Calls Tryd.prog 122 [W x0].toArray w fun e w' => e = .returned (.bool (decide (sgn x0))) ∧ WS w [] [] w' := by
  refine calls_of_T [] 7 [] Tryd.func122 rfl Tryd.ntmps122 (by simp) (WS.refl _ _) ?_
  refine T.seq ?_
  refine T.text [.l, .l] rfl ?_
  refine J.box 1 rfl rfl (wc x0) rfl rfl (fun g1 hg1 => ?_)
  refine J.assign rfl rfl ?_
  refine J.end ?_
  refine X.then ?_
  refine T.seq ?_
  refine T.text [.l, .l, .l, .l, .l] rfl ?_
  refine J.indexArr arr24 rfl rfl (by omega) (by omega) (by rfl) rfl ?_
  refine J.load1 (k := .l) trivial 1 rfl rfl one22 (by exact wc_at _ 3 (by omega)) rfl ?_
  have hl4 := lim_lt x0 3
  refine J.shr rfl rfl rfl (by decide) (by exact shr63_nat _) ?_
  refine J.eql rfl rfl rfl rfl ?_
  refine J.assign rfl rfl ?_
  refine J.end ?_
  refine X.then ?_
  refine T.ret ?_
  exact X.ret1 rfl (RV.tmp rfl) (fun w' hw' => ⟨by congr 2; exact decide_eq_decide.2 (by rw [sgn_lim]; omega), hw'.sub (Sub.nil _)⟩)

theorem negated (w : World) (x0 : Nat) :
    Calls Tryd.prog 123 [W x0].toArray w fun e w' => e = .returned (W (negN x0)) ∧ WS w [] [] w' := by
  refine calls_of_T [] 6 [] Tryd.func123 rfl Tryd.ntmps123 (by simp) (WS.refl _ _) ?_
  refine T.seq ?_
  refine T.text [.l, .l] rfl ?_
  refine J.box 1 rfl rfl (wc x0) rfl rfl (fun g1 hg1 => ?_)
  refine J.alloc 2 rfl zero24 [.int .u64 0, .int .u64 0, .int .u64 0, .int .u64 0] rfl rfl (fun g2 hg2 => ?_)
  refine J.end ?_
  refine X.then ?_
  refine T.seq ?_
  refine T.text [.l, .l, .l, .l] rfl ?_
  refine J.build rfl rfl (W 0) (fun w => by kernel_rfl) ?_
  refine J.loadN (k := .l) trivial 1 rfl rfl agg24 (wc x0) rfl rfl rfl ?_
  refine J.call0 (k := .l) trivial fok25 rfl rfl (fun w hw => Wb.Sub w _ _) ?_
  refine J.store 2 rfl rfl rfl rfl (wc (dif 0 x0)) rfl sz24 (by first | decide | exact Nat.le_refl _ | exact Nat.le_of_ble_eq_true rfl | (simp [rowN]; done) | (simp [rowN]; omega)) (by first | exact rowN_one _ _ | (simp; done) | (intro u hu; simp at hu; subst hu; rfl) | (intro u hu; simp at hu; rcases hu with rfl | rfl <;> rfl)) (by first | decide | exact Nat.zero_lt_succ _ | simp) trivial (wc (dif 0 x0)) rfl ?_
  refine J.end ?_
  refine X.then ?_
  refine T.ret ?_
  exact X.ret1 rfl (RV.agg 2 rfl rfl agg24 (wc (dif 0 x0)) (by rfl) (by rfl) rfl) (fun w' hw' => ⟨rfl, hw'.sub (Sub.nil _)⟩)

theorem unsigned (w : World) (x0 : Nat) :
    Calls Tryd.prog 121 [W x0].toArray w fun e w' => e = .returned (W (absN x0)) ∧ WS w [] [] w' := by
  refine calls_of_T [] 8 [] Tryd.func121 rfl Tryd.ntmps121 (by simp) (WS.refl _ _) ?_
  refine T.seq ?_
  refine T.text [.l, .l] rfl ?_
  refine J.box 1 rfl rfl (wc x0) rfl rfl (fun g1 hg1 => ?_)
  refine J.alloc 2 rfl zero24 [.int .u64 0, .int .u64 0, .int .u64 0, .int .u64 0] rfl rfl (fun g2 hg2 => ?_)
  refine J.end ?_
  refine X.then ?_
  refine T.seq ?_
  refine T.seq ?_
  refine T.text [.l, .l] rfl ?_
  refine J.loadN (k := .l) trivial 1 rfl rfl agg24 (wc x0) rfl rfl rfl ?_
  refine J.call0 (k := .l) trivial fok122 rfl rfl (fun w hw => We.below w _) ?_
  refine J.end ?_
  refine X.then ?_
  refine T.cond_dec rfl (fun h1 => ?_) (fun h1 => ?_)
  · skip
    refine T.seq ?_
    refine T.text [.l, .l, .l] rfl ?_
    refine J.loadN (k := .l) trivial 1 rfl rfl agg24 (wc x0) rfl rfl rfl ?_
    refine J.call0 (k := .l) trivial fok123 rfl rfl (fun w hw => We.negated w _) ?_
    refine J.store 2 rfl rfl rfl rfl (wc (negN x0)) rfl sz24 (by first | decide | exact Nat.le_refl _ | exact Nat.le_of_ble_eq_true rfl | (simp [rowN]; done) | (simp [rowN]; omega)) (by first | exact rowN_one _ _ | (simp; done) | (intro u hu; simp at hu; subst hu; rfl) | (intro u hu; simp at hu; rcases hu with rfl | rfl <;> rfl)) (by first | decide | exact Nat.zero_lt_succ _ | simp) trivial (wc (negN x0)) rfl ?_
    refine J.end ?_
    refine X.then ?_
    refine T.ret ?_
    refine X.then_ret ?_
    exact X.ret1 rfl (RV.agg 2 rfl rfl agg24 (wc (negN x0)) (by rfl) (by rfl) rfl) (fun w' hw' => ⟨retW (by unfold absN; split <;> first | contradiction | (rw [negN_mod]; unfold sgn at *; split <;> omega) | omega), hw'.sub (Sub.nil _)⟩)
  · skip
    refine T.skip ?_
    refine X.then ?_
    refine T.seq ?_
    refine T.text [.l, .l] rfl ?_
    refine J.loadN (k := .l) trivial 1 rfl rfl agg24 (wc x0) rfl rfl rfl ?_
    refine J.store 2 rfl rfl rfl rfl (wc x0) rfl sz24 (by first | decide | exact Nat.le_refl _ | exact Nat.le_of_ble_eq_true rfl | (simp [rowN]; done) | (simp [rowN]; omega)) (by first | exact rowN_one _ _ | (simp; done) | (intro u hu; simp at hu; subst hu; rfl) | (intro u hu; simp at hu; rcases hu with rfl | rfl <;> rfl)) (by first | decide | exact Nat.zero_lt_succ _ | simp) trivial (wc x0) rfl ?_
    refine J.end ?_
    refine X.then ?_
    refine T.ret ?_
    exact X.ret1 rfl (RV.agg 2 rfl rfl agg24 (wc x0) (by rfl) (by rfl) rfl) (fun w' hw' => ⟨retW (by unfold absN; split <;> first | contradiction | (rw [negN_mod]; unfold sgn at *; split <;> omega) | omega), hw'.sub (Sub.nil _)⟩)

theorem Div (w : World) (x0 : Nat) (x1 : Nat) :
    Calls Tryd.prog 29 [W x0, W x1].toArray w fun e w' => e = .returned (W (divN x0 x1)) ∧ WS w [] [] w' := by
  refine calls_of_T [] 18 [] Tryd.func29 rfl Tryd.ntmps29 (by simp) (WS.refl _ _) ?_
  refine T.seq ?_
  refine T.text [.l, .l, .l] rfl ?_
  refine J.box 2 rfl rfl (wc x0) rfl rfl (fun g2 hg2 => ?_)
  refine J.box 3 rfl rfl (wc x1) rfl rfl (fun g3 hg3 => ?_)
  refine J.alloc 4 rfl zero24 [.int .u64 0, .int .u64 0, .int .u64 0, .int .u64 0] rfl rfl (fun g4 hg4 => ?_)
  refine J.end ?_
  refine X.then ?_
  refine T.seq ?_
  refine T.seq ?_
  refine T.text [.l, .l] rfl ?_
  refine J.loadN (k := .l) trivial 3 rfl rfl agg24 (wc x1) rfl rfl rfl ?_
  refine J.call0 (k := .l) trivial fok81 rfl rfl (fun w hw => Wa.IsZero w _) ?_
  refine J.end ?_
  refine X.then ?_
  refine T.cond_dec rfl (fun h1 => ?_) (fun h1 => ?_)
  · skip
    refine T.seq ?_
    refine T.text [.l, .l] rfl ?_
    refine J.loadN (k := .l) trivial 3 rfl rfl agg24 (wc x1) rfl rfl rfl ?_
    refine J.store 4 rfl rfl rfl rfl (wc x1) rfl sz24 (by first | decide | exact Nat.le_refl _ | exact Nat.le_of_ble_eq_true rfl | (simp [rowN]; done) | (simp [rowN]; omega)) (by first | exact rowN_one _ _ | (simp; done) | (intro u hu; simp at hu; subst hu; rfl) | (intro u hu; simp at hu; rcases hu with rfl | rfl <;> rfl)) (by first | decide | exact Nat.zero_lt_succ _ | simp) trivial (wc x1) rfl ?_
    refine J.end ?_
    refine X.then ?_
    refine T.ret ?_
    refine X.then_ret ?_
    exact X.ret1 rfl (RV.agg 4 rfl rfl agg24 (wc x1) (by rfl) (by rfl) rfl) (fun w' hw' => ⟨retW (by unfold divN; rw [if_pos (by assumption)]; omega), hw'.sub (Sub.nil _)⟩)
  · skip
    refine T.skip ?_
    refine X.then ?_
    refine T.seq ?_
    refine T.draw [] [(0, .q), (1, .q), (2, .q), (3, .q), (4, .g), (5, .g), (6, .g), (7, .a 5), (8, .a 6), (9, .l), (10, .l)] (by kernel_rfl) (by kernel_rfl) ?_ (by repeat (first | exact Sub.nil _ | refine Sub.cons (by first | rfl | (rw [dgs_zero]; rfl) | (rw [List.drop_length]; rfl) | (simp; done) | (congr 2; omega) | (congr 3; omega)) ?_))
    refine J.loadN (k := .q) trivial 2 rfl rfl agg24 (wc x0) rfl rfl rfl ?_
    refine J.call0 (k := .q) trivial fok117 rfl rfl (fun w hw => Wb.wide w _ 0 (by omega)) ?_
    refine J.loadN (k := .q) trivial 3 rfl rfl agg24 (wc x1) rfl rfl rfl ?_
    refine J.call0 (k := .q) trivial fok116 rfl rfl (fun w hw => Wd.divide w _ _ (by omega) (by omega)) ?_
    refine J.move rfl rfl ?_
    refine J.extract rfl rfl rfl ?_
    refine J.extract rfl rfl rfl ?_
    refine J.allocA 5 rfl rfl zero24 [.int .u64 0, .int .u64 0, .int .u64 0, .int .u64 0] rfl rfl (fun g5 hg5 => ?_)
    refine J.allocA 6 rfl rfl zero24 [.int .u64 0, .int .u64 0, .int .u64 0, .int .u64 0] rfl rfl (fun g6 hg6 => ?_)
    refine J.store 5 rfl rfl rfl rfl (wc (((x0 % 2 ^ 256 + 0 * 2 ^ 256)) / (x1 % 2 ^ 256))) rfl sz24 (by first | decide | exact Nat.le_refl _ | exact Nat.le_of_ble_eq_true rfl | (simp [rowN]; done) | (simp [rowN]; omega)) (by first | exact rowN_one _ _ | (simp; done) | (intro u hu; simp at hu; subst hu; rfl) | (intro u hu; simp at hu; rcases hu with rfl | rfl <;> rfl)) (by first | decide | exact Nat.zero_lt_succ _ | simp) trivial (wc (((x0 % 2 ^ 256 + 0 * 2 ^ 256)) / (x1 % 2 ^ 256))) rfl ?_
    refine J.store 6 rfl rfl rfl rfl (wc (((x0 % 2 ^ 256 + 0 * 2 ^ 256)) % (x1 % 2 ^ 256))) rfl sz24 (by first | decide | exact Nat.le_refl _ | exact Nat.le_of_ble_eq_true rfl | (simp [rowN]; done) | (simp [rowN]; omega)) (by first | exact rowN_one _ _ | (simp; done) | (intro u hu; simp at hu; subst hu; rfl) | (intro u hu; simp at hu; rcases hu with rfl | rfl <;> rfl)) (by first | decide | exact Nat.zero_lt_succ _ | simp) trivial (wc (((x0 % 2 ^ 256 + 0 * 2 ^ 256)) % (x1 % 2 ^ 256))) rfl ?_
    refine J.end ?_
    refine X.then ?_
    refine T.seq ?_
    refine T.text [.l, .l] rfl ?_
    refine J.loadN (k := .l) trivial 5 rfl rfl agg24 (wc (((x0 % 2 ^ 256 + 0 * 2 ^ 256)) / (x1 % 2 ^ 256))) rfl rfl rfl ?_
    refine J.store 4 rfl rfl rfl rfl (wc (((x0 % 2 ^ 256 + 0 * 2 ^ 256)) / (x1 % 2 ^ 256))) rfl sz24 (by first | decide | exact Nat.le_refl _ | exact Nat.le_of_ble_eq_true rfl | (simp [rowN]; done) | (simp [rowN]; omega)) (by first | exact rowN_one _ _ | (simp; done) | (intro u hu; simp at hu; subst hu; rfl) | (intro u hu; simp at hu; rcases hu with rfl | rfl <;> rfl)) (by first | decide | exact Nat.zero_lt_succ _ | simp) trivial (wc (((x0 % 2 ^ 256 + 0 * 2 ^ 256)) / (x1 % 2 ^ 256))) rfl ?_
    refine J.end ?_
    refine X.then ?_
    refine T.ret ?_
    exact X.ret1 rfl (RV.agg 4 rfl rfl agg24 (wc (((x0 % 2 ^ 256 + 0 * 2 ^ 256)) / (x1 % 2 ^ 256))) (by rfl) (by rfl) rfl) (fun w' hw' => ⟨retW (by unfold divN; rw [if_neg (by assumption), Nat.zero_mul, Nat.add_zero]), hw'.sub (Sub.nil _)⟩)

theorem Mod (w : World) (x0 : Nat) (x1 : Nat) :
    Calls Tryd.prog 31 [W x0, W x1].toArray w fun e w' => e = .returned (W (modN x0 x1)) ∧ WS w [] [] w' := by
  refine calls_of_T [] 18 [] Tryd.func31 rfl Tryd.ntmps31 (by simp) (WS.refl _ _) ?_
  refine T.seq ?_
  refine T.text [.l, .l, .l] rfl ?_
  refine J.box 2 rfl rfl (wc x0) rfl rfl (fun g2 hg2 => ?_)
  refine J.box 3 rfl rfl (wc x1) rfl rfl (fun g3 hg3 => ?_)
  refine J.alloc 4 rfl zero24 [.int .u64 0, .int .u64 0, .int .u64 0, .int .u64 0] rfl rfl (fun g4 hg4 => ?_)
  refine J.end ?_
  refine X.then ?_
  refine T.seq ?_
  refine T.seq ?_
  refine T.text [.l, .l] rfl ?_
  refine J.loadN (k := .l) trivial 3 rfl rfl agg24 (wc x1) rfl rfl rfl ?_
  refine J.call0 (k := .l) trivial fok81 rfl rfl (fun w hw => Wa.IsZero w _) ?_
  refine J.end ?_
  refine X.then ?_
  refine T.cond_dec rfl (fun h1 => ?_) (fun h1 => ?_)
  · skip
    refine T.seq ?_
    refine T.text [.l, .l] rfl ?_
    refine J.loadN (k := .l) trivial 3 rfl rfl agg24 (wc x1) rfl rfl rfl ?_
    refine J.store 4 rfl rfl rfl rfl (wc x1) rfl sz24 (by first | decide | exact Nat.le_refl _ | exact Nat.le_of_ble_eq_true rfl | (simp [rowN]; done) | (simp [rowN]; omega)) (by first | exact rowN_one _ _ | (simp; done) | (intro u hu; simp at hu; subst hu; rfl) | (intro u hu; simp at hu; rcases hu with rfl | rfl <;> rfl)) (by first | decide | exact Nat.zero_lt_succ _ | simp) trivial (wc x1) rfl ?_
    refine J.end ?_
    refine X.then ?_
    refine T.ret ?_
    refine X.then_ret ?_
    exact X.ret1 rfl (RV.agg 4 rfl rfl agg24 (wc x1) (by rfl) (by rfl) rfl) (fun w' hw' => ⟨retW (by unfold modN; rw [if_pos (by assumption)]; omega), hw'.sub (Sub.nil _)⟩)
  · skip
    refine T.skip ?_
    refine X.then ?_
    refine T.seq ?_
    refine T.draw [] [(0, .q), (1, .q), (2, .q), (3, .q), (4, .g), (5, .g), (6, .g), (7, .a 5), (8, .a 6), (9, .l), (10, .l)] (by kernel_rfl) (by kernel_rfl) ?_ (by repeat (first | exact Sub.nil _ | refine Sub.cons (by first | rfl | (rw [dgs_zero]; rfl) | (rw [List.drop_length]; rfl) | (simp; done) | (congr 2; omega) | (congr 3; omega)) ?_))
    refine J.loadN (k := .q) trivial 2 rfl rfl agg24 (wc x0) rfl rfl rfl ?_
    refine J.call0 (k := .q) trivial fok117 rfl rfl (fun w hw => Wb.wide w _ 0 (by omega)) ?_
    refine J.loadN (k := .q) trivial 3 rfl rfl agg24 (wc x1) rfl rfl rfl ?_
    refine J.call0 (k := .q) trivial fok116 rfl rfl (fun w hw => Wd.divide w _ _ (by omega) (by omega)) ?_
    refine J.move rfl rfl ?_
    refine J.extract rfl rfl rfl ?_
    refine J.extract rfl rfl rfl ?_
    refine J.allocA 5 rfl rfl zero24 [.int .u64 0, .int .u64 0, .int .u64 0, .int .u64 0] rfl rfl (fun g5 hg5 => ?_)
    refine J.allocA 6 rfl rfl zero24 [.int .u64 0, .int .u64 0, .int .u64 0, .int .u64 0] rfl rfl (fun g6 hg6 => ?_)
    refine J.store 5 rfl rfl rfl rfl (wc (((x0 % 2 ^ 256 + 0 * 2 ^ 256)) / (x1 % 2 ^ 256))) rfl sz24 (by first | decide | exact Nat.le_refl _ | exact Nat.le_of_ble_eq_true rfl | (simp [rowN]; done) | (simp [rowN]; omega)) (by first | exact rowN_one _ _ | (simp; done) | (intro u hu; simp at hu; subst hu; rfl) | (intro u hu; simp at hu; rcases hu with rfl | rfl <;> rfl)) (by first | decide | exact Nat.zero_lt_succ _ | simp) trivial (wc (((x0 % 2 ^ 256 + 0 * 2 ^ 256)) / (x1 % 2 ^ 256))) rfl ?_
    refine J.store 6 rfl rfl rfl rfl (wc (((x0 % 2 ^ 256 + 0 * 2 ^ 256)) % (x1 % 2 ^ 256))) rfl sz24 (by first | decide | exact Nat.le_refl _ | exact Nat.le_of_ble_eq_true rfl | (simp [rowN]; done) | (simp [rowN]; omega)) (by first | exact rowN_one _ _ | (simp; done) | (intro u hu; simp at hu; subst hu; rfl) | (intro u hu; simp at hu; rcases hu with rfl | rfl <;> rfl)) (by first | decide | exact Nat.zero_lt_succ _ | simp) trivial (wc (((x0 % 2 ^ 256 + 0 * 2 ^ 256)) % (x1 % 2 ^ 256))) rfl ?_
    refine J.end ?_
    refine X.then ?_
    refine T.seq ?_
    refine T.text [.l, .l] rfl ?_
    refine J.loadN (k := .l) trivial 6 rfl rfl agg24 (wc (((x0 % 2 ^ 256 + 0 * 2 ^ 256)) % (x1 % 2 ^ 256))) rfl rfl rfl ?_
    refine J.store 4 rfl rfl rfl rfl (wc (((x0 % 2 ^ 256 + 0 * 2 ^ 256)) % (x1 % 2 ^ 256))) rfl sz24 (by first | decide | exact Nat.le_refl _ | exact Nat.le_of_ble_eq_true rfl | (simp [rowN]; done) | (simp [rowN]; omega)) (by first | exact rowN_one _ _ | (simp; done) | (intro u hu; simp at hu; subst hu; rfl) | (intro u hu; simp at hu; rcases hu with rfl | rfl <;> rfl)) (by first | decide | exact Nat.zero_lt_succ _ | simp) trivial (wc (((x0 % 2 ^ 256 + 0 * 2 ^ 256)) % (x1 % 2 ^ 256))) rfl ?_
    refine J.end ?_
    refine X.then ?_
    refine T.ret ?_
    exact X.ret1 rfl (RV.agg 4 rfl rfl agg24 (wc (((x0 % 2 ^ 256 + 0 * 2 ^ 256)) % (x1 % 2 ^ 256))) (by rfl) (by rfl) rfl) (fun w' hw' => ⟨retW (by unfold modN; rw [if_neg (by assumption), Nat.zero_mul, Nat.add_zero]), hw'.sub (Sub.nil _)⟩)

theorem AddMod (w : World) (x0 : Nat) (x1 : Nat) (x2 : Nat) :
    Calls Tryd.prog 46 [W x0, W x1, W x2].toArray w fun e w' => e = .returned (W (addmN x0 x1 x2)) ∧ WS w [] [] w' := by
  have hcl : (x0 % 2 ^ 256 + x1 % 2 ^ 256) / 2 ^ 256 ≤ 1 := by omega
  refine calls_of_T [] 29 [] Tryd.func46 rfl Tryd.ntmps46 (by simp) (WS.refl _ _) ?_
  refine T.seq ?_
  refine T.text [.l, .l, .l, .l] rfl ?_
  refine J.box 3 rfl rfl (wc x0) rfl rfl (fun g3 hg3 => ?_)
  refine J.box 4 rfl rfl (wc x1) rfl rfl (fun g4 hg4 => ?_)
  refine J.box 5 rfl rfl (wc x2) rfl rfl (fun g5 hg5 => ?_)
  refine J.alloc 6 rfl zero24 [.int .u64 0, .int .u64 0, .int .u64 0, .int .u64 0] rfl rfl (fun g6 hg6 => ?_)
  refine J.end ?_
  refine X.then ?_
  refine T.seq ?_
  refine T.seq ?_
  refine T.text [.l, .l] rfl ?_
  refine J.loadN (k := .l) trivial 5 rfl rfl agg24 (wc x2) rfl rfl rfl ?_
  refine J.call0 (k := .l) trivial fok81 rfl rfl (fun w hw => Wa.IsZero w _) ?_
  refine J.end ?_
  refine X.then ?_
  refine T.cond_dec rfl (fun h1 => ?_) (fun h1 => ?_)
  · skip
    refine T.seq ?_
    refine T.text [.l, .l] rfl ?_
    refine J.loadN (k := .l) trivial 5 rfl rfl agg24 (wc x2) rfl rfl rfl ?_
    refine J.store 6 rfl rfl rfl rfl (wc x2) rfl sz24 (by first | decide | exact Nat.le_refl _ | exact Nat.le_of_ble_eq_true rfl | (simp [rowN]; done) | (simp [rowN]; omega)) (by first | exact rowN_one _ _ | (simp; done) | (intro u hu; simp at hu; subst hu; rfl) | (intro u hu; simp at hu; rcases hu with rfl | rfl <;> rfl)) (by first | decide | exact Nat.zero_lt_succ _ | simp) trivial (wc x2) rfl ?_
    refine J.end ?_
    refine X.then ?_
    refine T.ret ?_
    refine X.then_ret ?_
    exact X.ret1 rfl (RV.agg 6 rfl rfl agg24 (wc x2) (by rfl) (by rfl) rfl) (fun w' hw' => ⟨retW (by unfold addmN; rw [if_pos (by assumption)]; omega), hw'.sub (Sub.nil _)⟩)
  · skip
    refine T.skip ?_
    refine X.then ?_
    refine T.seq ?_
    refine T.text [.l, .l, .l, .l, .l, .l, .l, .l, .l] rfl ?_
    refine J.loadN (k := .l) trivial 3 rfl rfl agg24 (wc x0) rfl rfl rfl ?_
    refine J.loadN (k := .l) trivial 4 rfl rfl agg24 (wc x1) rfl rfl rfl ?_
    refine J.call0 (k := .l) trivial fok107 rfl rfl (fun w hw => Wa.plus w _ _) ?_
    refine J.move rfl rfl ?_
    refine J.extract rfl rfl rfl ?_
    refine J.extract rfl rfl rfl ?_
    refine J.alloc 7 rfl zero24 [.int .u64 0, .int .u64 0, .int .u64 0, .int .u64 0] rfl rfl (fun g7 hg7 => ?_)
    refine J.store 7 rfl rfl rfl rfl (wc (x0 + x1)) rfl sz24 (by first | decide | exact Nat.le_refl _ | exact Nat.le_of_ble_eq_true rfl | (simp [rowN]; done) | (simp [rowN]; omega)) (by first | exact rowN_one _ _ | (simp; done) | (intro u hu; simp at hu; subst hu; rfl) | (intro u hu; simp at hu; rcases hu with rfl | rfl <;> rfl)) (by first | decide | exact Nat.zero_lt_succ _ | simp) trivial (wc (x0 + x1)) rfl ?_
    refine J.assign rfl rfl ?_
    refine J.end ?_
    refine X.then ?_
    refine T.seq ?_
    refine T.draw [] [(0, .q), (1, .g), (2, .q), (3, .q), (4, .q), (5, .g), (6, .g), (7, .g), (8, .a 9), (9, .a 10), (10, .l), (11, .l)] (by kernel_rfl) (by kernel_rfl) ?_ (by repeat (first | exact Sub.nil _ | refine Sub.cons (by first | rfl | (rw [dgs_zero]; rfl) | (rw [List.drop_length]; rfl) | (simp; done) | (congr 2; omega) | (congr 3; omega)) ?_))
    refine J.loadN (k := .q) trivial 7 rfl rfl agg24 (wc (x0 + x1)) rfl rfl rfl ?_
    refine J.move rfl rfl ?_
    refine J.call0 (k := .q) trivial fok117 rfl rfl (fun w hw => Wb.wide w _ _ (by omega)) ?_
    refine J.loadN (k := .q) trivial 5 rfl rfl agg24 (wc x2) rfl rfl rfl ?_
    refine J.call0 (k := .q) trivial fok116 rfl rfl (fun w hw => Wd.divide w _ _ (by omega) (by omega)) ?_
    refine J.move rfl rfl ?_
    refine J.extract rfl rfl rfl ?_
    refine J.extract rfl rfl rfl ?_
    refine J.allocA 9 rfl rfl zero24 [.int .u64 0, .int .u64 0, .int .u64 0, .int .u64 0] rfl rfl (fun g9 hg9 => ?_)
    refine J.allocA 10 rfl rfl zero24 [.int .u64 0, .int .u64 0, .int .u64 0, .int .u64 0] rfl rfl (fun g10 hg10 => ?_)
    refine J.store 9 rfl rfl rfl rfl (wc (((((x0 + x1)) % 2 ^ 256 + ((x0 % 2 ^ 256 + x1 % 2 ^ 256) / 2 ^ 256) * 2 ^ 256)) / (x2 % 2 ^ 256))) rfl sz24 (by first | decide | exact Nat.le_refl _ | exact Nat.le_of_ble_eq_true rfl | (simp [rowN]; done) | (simp [rowN]; omega)) (by first | exact rowN_one _ _ | (simp; done) | (intro u hu; simp at hu; subst hu; rfl) | (intro u hu; simp at hu; rcases hu with rfl | rfl <;> rfl)) (by first | decide | exact Nat.zero_lt_succ _ | simp) trivial (wc (((((x0 + x1)) % 2 ^ 256 + ((x0 % 2 ^ 256 + x1 % 2 ^ 256) / 2 ^ 256) * 2 ^ 256)) / (x2 % 2 ^ 256))) rfl ?_
    refine J.store 10 rfl rfl rfl rfl (wc (((((x0 + x1)) % 2 ^ 256 + ((x0 % 2 ^ 256 + x1 % 2 ^ 256) / 2 ^ 256) * 2 ^ 256)) % (x2 % 2 ^ 256))) rfl sz24 (by first | decide | exact Nat.le_refl _ | exact Nat.le_of_ble_eq_true rfl | (simp [rowN]; done) | (simp [rowN]; omega)) (by first | exact rowN_one _ _ | (simp; done) | (intro u hu; simp at hu; subst hu; rfl) | (intro u hu; simp at hu; rcases hu with rfl | rfl <;> rfl)) (by first | decide | exact Nat.zero_lt_succ _ | simp) trivial (wc (((((x0 + x1)) % 2 ^ 256 + ((x0 % 2 ^ 256 + x1 % 2 ^ 256) / 2 ^ 256) * 2 ^ 256)) % (x2 % 2 ^ 256))) rfl ?_
    refine J.end ?_
    refine X.then ?_
    refine T.seq ?_
    refine T.text [.l, .l] rfl ?_
    refine J.loadN (k := .l) trivial 10 rfl rfl agg24 (wc (((((x0 + x1)) % 2 ^ 256 + ((x0 % 2 ^ 256 + x1 % 2 ^ 256) / 2 ^ 256) * 2 ^ 256)) % (x2 % 2 ^ 256))) rfl rfl rfl ?_
    refine J.store 6 rfl rfl rfl rfl (wc (((((x0 + x1)) % 2 ^ 256 + ((x0 % 2 ^ 256 + x1 % 2 ^ 256) / 2 ^ 256) * 2 ^ 256)) % (x2 % 2 ^ 256))) rfl sz24 (by first | decide | exact Nat.le_refl _ | exact Nat.le_of_ble_eq_true rfl | (simp [rowN]; done) | (simp [rowN]; omega)) (by first | exact rowN_one _ _ | (simp; done) | (intro u hu; simp at hu; subst hu; rfl) | (intro u hu; simp at hu; rcases hu with rfl | rfl <;> rfl)) (by first | decide | exact Nat.zero_lt_succ _ | simp) trivial (wc (((((x0 + x1)) % 2 ^ 256 + ((x0 % 2 ^ 256 + x1 % 2 ^ 256) / 2 ^ 256) * 2 ^ 256)) % (x2 % 2 ^ 256))) rfl ?_
    refine J.end ?_
    refine X.then ?_
    refine T.ret ?_
    exact X.ret1 rfl (RV.agg 6 rfl rfl agg24 (wc (((((x0 + x1)) % 2 ^ 256 + ((x0 % 2 ^ 256 + x1 % 2 ^ 256) / 2 ^ 256) * 2 ^ 256)) % (x2 % 2 ^ 256))) (by rfl) (by rfl) rfl) (fun w' hw' => ⟨retW (by unfold addmN; rw [if_neg (by assumption)]; congr 2; omega), hw'.sub (Sub.nil _)⟩)

theorem MulMod (w : World) (x0 : Nat) (x1 : Nat) (x2 : Nat) :
    Calls Tryd.prog 48 [W x0, W x1, W x2].toArray w fun e w' => e = .returned (W (mulmN x0 x1 x2)) ∧ WS w [] [] w' := by
  refine calls_of_T [] 21 [] Tryd.func48 rfl Tryd.ntmps48 (by simp) (WS.refl _ _) ?_
  refine T.seq ?_
  refine T.text [.l, .l, .l, .l] rfl ?_
  refine J.box 3 rfl rfl (wc x0) rfl rfl (fun g3 hg3 => ?_)
  refine J.box 4 rfl rfl (wc x1) rfl rfl (fun g4 hg4 => ?_)
  refine J.box 5 rfl rfl (wc x2) rfl rfl (fun g5 hg5 => ?_)
  refine J.alloc 6 rfl zero24 [.int .u64 0, .int .u64 0, .int .u64 0, .int .u64 0] rfl rfl (fun g6 hg6 => ?_)
  refine J.end ?_
  refine X.then ?_
  refine T.seq ?_
  refine T.seq ?_
  refine T.text [.l, .l] rfl ?_
  refine J.loadN (k := .l) trivial 5 rfl rfl agg24 (wc x2) rfl rfl rfl ?_
  refine J.call0 (k := .l) trivial fok81 rfl rfl (fun w hw => Wa.IsZero w _) ?_
  refine J.end ?_
  refine X.then ?_
  refine T.cond_dec rfl (fun h1 => ?_) (fun h1 => ?_)
  · skip
    refine T.seq ?_
    refine T.text [.l, .l] rfl ?_
    refine J.loadN (k := .l) trivial 5 rfl rfl agg24 (wc x2) rfl rfl rfl ?_
    refine J.store 6 rfl rfl rfl rfl (wc x2) rfl sz24 (by first | decide | exact Nat.le_refl _ | exact Nat.le_of_ble_eq_true rfl | (simp [rowN]; done) | (simp [rowN]; omega)) (by first | exact rowN_one _ _ | (simp; done) | (intro u hu; simp at hu; subst hu; rfl) | (intro u hu; simp at hu; rcases hu with rfl | rfl <;> rfl)) (by first | decide | exact Nat.zero_lt_succ _ | simp) trivial (wc x2) rfl ?_
    refine J.end ?_
    refine X.then ?_
    refine T.ret ?_
    refine X.then_ret ?_
    exact X.ret1 rfl (RV.agg 6 rfl rfl agg24 (wc x2) (by rfl) (by rfl) rfl) (fun w' hw' => ⟨retW (by unfold mulmN; rw [if_pos (by assumption)]; omega), hw'.sub (Sub.nil _)⟩)
  · skip
    refine T.skip ?_
    refine X.then ?_
    refine T.seq ?_
    refine T.draw [] [(0, .q), (1, .q), (2, .q), (3, .q), (4, .q), (5, .g), (6, .g), (7, .g), (8, .a 7), (9, .a 8), (10, .l), (11, .l)] (by kernel_rfl) (by kernel_rfl) ?_ (by repeat (first | exact Sub.nil _ | refine Sub.cons (by first | rfl | (rw [dgs_zero]; rfl) | (rw [List.drop_length]; rfl) | (simp; done) | (congr 2; omega) | (congr 3; omega)) ?_))
    refine J.loadN (k := .q) trivial 3 rfl rfl agg24 (wc x0) rfl rfl rfl ?_
    refine J.loadN (k := .q) trivial 4 rfl rfl agg24 (wc x1) rfl rfl rfl ?_
    refine J.call0 (k := .q) trivial fok114 rfl rfl (fun w hw => Wb.times w _ _) ?_
    refine J.loadN (k := .q) trivial 5 rfl rfl agg24 (wc x2) rfl rfl rfl ?_
    refine J.call0 (k := .q) trivial fok116 rfl rfl (fun w hw => Wd.divide w _ _ (mul_lt512 x0 x1) (by assumption)) ?_
    refine J.move rfl rfl ?_
    refine J.extract rfl rfl rfl ?_
    refine J.extract rfl rfl rfl ?_
    refine J.allocA 7 rfl rfl zero24 [.int .u64 0, .int .u64 0, .int .u64 0, .int .u64 0] rfl rfl (fun g7 hg7 => ?_)
    refine J.allocA 8 rfl rfl zero24 [.int .u64 0, .int .u64 0, .int .u64 0, .int .u64 0] rfl rfl (fun g8 hg8 => ?_)
    refine J.store 7 rfl rfl rfl rfl (wc (((x0 % 2 ^ 256 * (x1 % 2 ^ 256))) / (x2 % 2 ^ 256))) rfl sz24 (by first | decide | exact Nat.le_refl _ | exact Nat.le_of_ble_eq_true rfl | (simp [rowN]; done) | (simp [rowN]; omega)) (by first | exact rowN_one _ _ | (simp; done) | (intro u hu; simp at hu; subst hu; rfl) | (intro u hu; simp at hu; rcases hu with rfl | rfl <;> rfl)) (by first | decide | exact Nat.zero_lt_succ _ | simp) trivial (wc (((x0 % 2 ^ 256 * (x1 % 2 ^ 256))) / (x2 % 2 ^ 256))) rfl ?_
    refine J.store 8 rfl rfl rfl rfl (wc (((x0 % 2 ^ 256 * (x1 % 2 ^ 256))) % (x2 % 2 ^ 256))) rfl sz24 (by first | decide | exact Nat.le_refl _ | exact Nat.le_of_ble_eq_true rfl | (simp [rowN]; done) | (simp [rowN]; omega)) (by first | exact rowN_one _ _ | (simp; done) | (intro u hu; simp at hu; subst hu; rfl) | (intro u hu; simp at hu; rcases hu with rfl | rfl <;> rfl)) (by first | decide | exact Nat.zero_lt_succ _ | simp) trivial (wc (((x0 % 2 ^ 256 * (x1 % 2 ^ 256))) % (x2 % 2 ^ 256))) rfl ?_
    refine J.end ?_
    refine X.then ?_
    refine T.seq ?_
    refine T.text [.l, .l] rfl ?_
    refine J.loadN (k := .l) trivial 8 rfl rfl agg24 (wc (((x0 % 2 ^ 256 * (x1 % 2 ^ 256))) % (x2 % 2 ^ 256))) rfl rfl rfl ?_
    refine J.store 6 rfl rfl rfl rfl (wc (((x0 % 2 ^ 256 * (x1 % 2 ^ 256))) % (x2 % 2 ^ 256))) rfl sz24 (by first | decide | exact Nat.le_refl _ | exact Nat.le_of_ble_eq_true rfl | (simp [rowN]; done) | (simp [rowN]; omega)) (by first | exact rowN_one _ _ | (simp; done) | (intro u hu; simp at hu; subst hu; rfl) | (intro u hu; simp at hu; rcases hu with rfl | rfl <;> rfl)) (by first | decide | exact Nat.zero_lt_succ _ | simp) trivial (wc (((x0 % 2 ^ 256 * (x1 % 2 ^ 256))) % (x2 % 2 ^ 256))) rfl ?_
    refine J.end ?_
    refine X.then ?_
    refine T.ret ?_
    exact X.ret1 rfl (RV.agg 6 rfl rfl agg24 (wc (((x0 % 2 ^ 256 * (x1 % 2 ^ 256))) % (x2 % 2 ^ 256))) (by rfl) (by rfl) rfl) (fun w' hw' => ⟨retW (by unfold mulmN; rw [if_neg (by assumption)]), hw'.sub (Sub.nil _)⟩)

theorem SDiv (w : World) (x0 : Nat) (x1 : Nat) :
    Calls Tryd.prog 34 [W x0, W x1].toArray w fun e w' => e = .returned (W (sdivN x0 x1)) ∧ WS w [] [] w' := by
  refine calls_of_T [] 19 [] Tryd.func34 rfl Tryd.ntmps34 (by simp) (WS.refl _ _) ?_
  refine T.seq ?_
  refine T.text [.l, .l, .l] rfl ?_
  refine J.box 2 rfl rfl (wc x0) rfl rfl (fun g2 hg2 => ?_)
  refine J.box 3 rfl rfl (wc x1) rfl rfl (fun g3 hg3 => ?_)
  refine J.alloc 4 rfl zero24 [.int .u64 0, .int .u64 0, .int .u64 0, .int .u64 0] rfl rfl (fun g4 hg4 => ?_)
  refine J.end ?_
  refine X.then ?_
  refine T.seq ?_
  refine T.draw [] [(0, .q), (1, .q), (2, .q), (3, .q), (4, .q), (5, .a 5), (6, .l)] (by kernel_rfl) (by kernel_rfl) ?_ (by repeat (first | exact Sub.nil _ | refine Sub.cons (by first | rfl | (rw [dgs_zero]; rfl) | (rw [List.drop_length]; rfl) | (simp; done) | (congr 2; omega) | (congr 3; omega)) ?_))
  refine J.loadN (k := .q) trivial 2 rfl rfl agg24 (wc x0) rfl rfl rfl ?_
  refine J.call0 (k := .q) trivial fok121 rfl rfl (fun w hw => We.unsigned w _) ?_
  refine J.loadN (k := .q) trivial 3 rfl rfl agg24 (wc x1) rfl rfl rfl ?_
  refine J.call0 (k := .q) trivial fok121 rfl rfl (fun w hw => We.unsigned w _) ?_
  refine J.call0 (k := .q) trivial fok29 rfl rfl (fun w hw => We.Div w _ _) ?_
  refine J.allocA 5 rfl rfl zero24 [.int .u64 0, .int .u64 0, .int .u64 0, .int .u64 0] rfl rfl (fun g5 hg5 => ?_)
  refine J.store 5 rfl rfl rfl rfl (wc (divN ((absN x0)) ((absN x1)))) rfl sz24 (by first | decide | exact Nat.le_refl _ | exact Nat.le_of_ble_eq_true rfl | (simp [rowN]; done) | (simp [rowN]; omega)) (by first | exact rowN_one _ _ | (simp; done) | (intro u hu; simp at hu; subst hu; rfl) | (intro u hu; simp at hu; rcases hu with rfl | rfl <;> rfl)) (by first | decide | exact Nat.zero_lt_succ _ | simp) trivial (wc (divN ((absN x0)) ((absN x1)))) rfl ?_
  refine J.end ?_
  refine X.then ?_
  refine T.seq ?_
  refine T.seq ?_
  refine T.draw [] [(0, .q), (1, .q), (2, .q), (3, .q), (4, .g)] (by kernel_rfl) (by kernel_rfl) ?_ (by repeat (first | exact Sub.nil _ | refine Sub.cons (by first | rfl | (rw [dgs_zero]; rfl) | (rw [List.drop_length]; rfl) | (simp; done) | (congr 2; omega) | (congr 3; omega)) ?_))
  refine J.loadN (k := .q) trivial 2 rfl rfl agg24 (wc x0) rfl rfl rfl ?_
  refine J.call0 (k := .q) trivial fok122 rfl rfl (fun w hw => We.below w _) ?_
  refine J.loadN (k := .q) trivial 3 rfl rfl agg24 (wc x1) rfl rfl rfl ?_
  refine J.call0 (k := .q) trivial fok122 rfl rfl (fun w hw => We.below w _) ?_
  refine J.neqB Tryd.underlying4 rfl rfl rfl (by exact neqB_dec _ _) ?_
  refine J.end ?_
  refine X.then ?_
  refine T.cond_dec rfl (fun h1 => ?_) (fun h1 => ?_)
  · skip
    refine T.seq ?_
    refine T.text [.l, .l, .l] rfl ?_
    refine J.loadN (k := .l) trivial 5 rfl rfl agg24 (wc (divN ((absN x0)) ((absN x1)))) rfl rfl rfl ?_
    refine J.call0 (k := .l) trivial fok123 rfl rfl (fun w hw => We.negated w _) ?_
    refine J.store 4 rfl rfl rfl rfl (wc (negN ((divN ((absN x0)) ((absN x1)))))) rfl sz24 (by first | decide | exact Nat.le_refl _ | exact Nat.le_of_ble_eq_true rfl | (simp [rowN]; done) | (simp [rowN]; omega)) (by first | exact rowN_one _ _ | (simp; done) | (intro u hu; simp at hu; subst hu; rfl) | (intro u hu; simp at hu; rcases hu with rfl | rfl <;> rfl)) (by first | decide | exact Nat.zero_lt_succ _ | simp) trivial (wc (negN ((divN ((absN x0)) ((absN x1)))))) rfl ?_
    refine J.end ?_
    refine X.then ?_
    refine T.ret ?_
    refine X.then_ret ?_
    exact X.ret1 rfl (RV.agg 4 rfl rfl agg24 (wc (negN ((divN ((absN x0)) ((absN x1)))))) (by rfl) (by rfl) rfl) (fun w' hw' => ⟨retW (by unfold sdivN; rw [if_pos (by assumption)]), hw'.sub (Sub.nil _)⟩)
  · skip
    refine T.skip ?_
    refine X.then ?_
    refine T.seq ?_
    refine T.text [.l, .l] rfl ?_
    refine J.loadN (k := .l) trivial 5 rfl rfl agg24 (wc (divN ((absN x0)) ((absN x1)))) rfl rfl rfl ?_
    refine J.store 4 rfl rfl rfl rfl (wc (divN ((absN x0)) ((absN x1)))) rfl sz24 (by first | decide | exact Nat.le_refl _ | exact Nat.le_of_ble_eq_true rfl | (simp [rowN]; done) | (simp [rowN]; omega)) (by first | exact rowN_one _ _ | (simp; done) | (intro u hu; simp at hu; subst hu; rfl) | (intro u hu; simp at hu; rcases hu with rfl | rfl <;> rfl)) (by first | decide | exact Nat.zero_lt_succ _ | simp) trivial (wc (divN ((absN x0)) ((absN x1)))) rfl ?_
    refine J.end ?_
    refine X.then ?_
    refine T.ret ?_
    exact X.ret1 rfl (RV.agg 4 rfl rfl agg24 (wc (divN ((absN x0)) ((absN x1)))) (by rfl) (by rfl) rfl) (fun w' hw' => ⟨retW (by unfold sdivN; rw [if_neg (by assumption)]), hw'.sub (Sub.nil _)⟩)

theorem SMod (w : World) (x0 : Nat) (x1 : Nat) :
    Calls Tryd.prog 36 [W x0, W x1].toArray w fun e w' => e = .returned (W (smodN x0 x1)) ∧ WS w [] [] w' := by
  refine calls_of_T [] 16 [] Tryd.func36 rfl Tryd.ntmps36 (by simp) (WS.refl _ _) ?_
  refine T.seq ?_
  refine T.text [.l, .l, .l] rfl ?_
  refine J.box 2 rfl rfl (wc x0) rfl rfl (fun g2 hg2 => ?_)
  refine J.box 3 rfl rfl (wc x1) rfl rfl (fun g3 hg3 => ?_)
  refine J.alloc 4 rfl zero24 [.int .u64 0, .int .u64 0, .int .u64 0, .int .u64 0] rfl rfl (fun g4 hg4 => ?_)
  refine J.end ?_
  refine X.then ?_
  refine T.seq ?_
  refine T.draw [] [(0, .q), (1, .q), (2, .q), (3, .q), (4, .q), (5, .a 5), (6, .l)] (by kernel_rfl) (by kernel_rfl) ?_ (by repeat (first | exact Sub.nil _ | refine Sub.cons (by first | rfl | (rw [dgs_zero]; rfl) | (rw [List.drop_length]; rfl) | (simp; done) | (congr 2; omega) | (congr 3; omega)) ?_))
  refine J.loadN (k := .q) trivial 2 rfl rfl agg24 (wc x0) rfl rfl rfl ?_
  refine J.call0 (k := .q) trivial fok121 rfl rfl (fun w hw => We.unsigned w _) ?_
  refine J.loadN (k := .q) trivial 3 rfl rfl agg24 (wc x1) rfl rfl rfl ?_
  refine J.call0 (k := .q) trivial fok121 rfl rfl (fun w hw => We.unsigned w _) ?_
  refine J.call0 (k := .q) trivial fok31 rfl rfl (fun w hw => We.Mod w _ _) ?_
  refine J.allocA 5 rfl rfl zero24 [.int .u64 0, .int .u64 0, .int .u64 0, .int .u64 0] rfl rfl (fun g5 hg5 => ?_)
  refine J.store 5 rfl rfl rfl rfl (wc (modN ((absN x0)) ((absN x1)))) rfl sz24 (by first | decide | exact Nat.le_refl _ | exact Nat.le_of_ble_eq_true rfl | (simp [rowN]; done) | (simp [rowN]; omega)) (by first | exact rowN_one _ _ | (simp; done) | (intro u hu; simp at hu; subst hu; rfl) | (intro u hu; simp at hu; rcases hu with rfl | rfl <;> rfl)) (by first | decide | exact Nat.zero_lt_succ _ | simp) trivial (wc (modN ((absN x0)) ((absN x1)))) rfl ?_
  refine J.end ?_
  refine X.then ?_
  refine T.seq ?_
  refine T.seq ?_
  refine T.text [.l, .l] rfl ?_
  refine J.loadN (k := .l) trivial 2 rfl rfl agg24 (wc x0) rfl rfl rfl ?_
  refine J.call0 (k := .l) trivial fok122 rfl rfl (fun w hw => We.below w _) ?_
  refine J.end ?_
  refine X.then ?_
  refine T.cond_dec rfl (fun h1 => ?_) (fun h1 => ?_)
  · skip
    refine T.seq ?_
    refine T.text [.l, .l, .l] rfl ?_
    refine J.loadN (k := .l) trivial 5 rfl rfl agg24 (wc (modN ((absN x0)) ((absN x1)))) rfl rfl rfl ?_
    refine J.call0 (k := .l) trivial fok123 rfl rfl (fun w hw => We.negated w _) ?_
    refine J.store 4 rfl rfl rfl rfl (wc (negN ((modN ((absN x0)) ((absN x1)))))) rfl sz24 (by first | decide | exact Nat.le_refl _ | exact Nat.le_of_ble_eq_true rfl | (simp [rowN]; done) | (simp [rowN]; omega)) (by first | exact rowN_one _ _ | (simp; done) | (intro u hu; simp at hu; subst hu; rfl) | (intro u hu; simp at hu; rcases hu with rfl | rfl <;> rfl)) (by first | decide | exact Nat.zero_lt_succ _ | simp) trivial (wc (negN ((modN ((absN x0)) ((absN x1)))))) rfl ?_
    refine J.end ?_
    refine X.then ?_
    refine T.ret ?_
    refine X.then_ret ?_
    exact X.ret1 rfl (RV.agg 4 rfl rfl agg24 (wc (negN ((modN ((absN x0)) ((absN x1)))))) (by rfl) (by rfl) rfl) (fun w' hw' => ⟨retW (by unfold smodN; rw [if_pos (by assumption)]), hw'.sub (Sub.nil _)⟩)
  · skip
    refine T.skip ?_
    refine X.then ?_
    refine T.seq ?_
    refine T.text [.l, .l] rfl ?_
    refine J.loadN (k := .l) trivial 5 rfl rfl agg24 (wc (modN ((absN x0)) ((absN x1)))) rfl rfl rfl ?_
    refine J.store 4 rfl rfl rfl rfl (wc (modN ((absN x0)) ((absN x1)))) rfl sz24 (by first | decide | exact Nat.le_refl _ | exact Nat.le_of_ble_eq_true rfl | (simp [rowN]; done) | (simp [rowN]; omega)) (by first | exact rowN_one _ _ | (simp; done) | (intro u hu; simp at hu; subst hu; rfl) | (intro u hu; simp at hu; rcases hu with rfl | rfl <;> rfl)) (by first | decide | exact Nat.zero_lt_succ _ | simp) trivial (wc (modN ((absN x0)) ((absN x1)))) rfl ?_
    refine J.end ?_
    refine X.then ?_
    refine T.ret ?_
    exact X.ret1 rfl (RV.agg 4 rfl rfl agg24 (wc (modN ((absN x0)) ((absN x1)))) (by rfl) (by rfl) rfl) (fun w' hw' => ⟨retW (by unfold smodN; rw [if_neg (by assumption)]), hw'.sub (Sub.nil _)⟩)

theorem Shl (w : World) (x0 : Nat) (x1 : Nat) :
    Calls Tryd.prog 59 [W x0, W x1].toArray w fun e w' => e = .returned (W (shlN x0 x1)) ∧ WS w [] [] w' := by
  refine calls_of_T [] 57 [] Tryd.func59 rfl Tryd.ntmps59 (by simp) (WS.refl _ _) ?_
  refine T.seq ?_
  refine T.text [.l, .l, .l] rfl ?_
  refine J.box 2 rfl rfl (wc x0) rfl rfl (fun g2 hg2 => ?_)
  refine J.box 3 rfl rfl (wc x1) rfl rfl (fun g3 hg3 => ?_)
  refine J.alloc 4 rfl zero24 [.int .u64 0, .int .u64 0, .int .u64 0, .int .u64 0] rfl rfl (fun g4 hg4 => ?_)
  refine J.end ?_
  refine X.then ?_
  refine T.seq ?_
  refine T.text [.l] rfl ?_
  refine J.alloc 5 rfl zero24 [.int .u64 0, .int .u64 0, .int .u64 0, .int .u64 0] rfl rfl (fun g5 hg5 => ?_)
  refine J.end ?_
  refine X.then ?_
  refine T.seq ?_
  refine T.seq ?_
  refine T.text [.l, .l, .l, .l] rfl ?_
  refine J.loadN (k := .l) trivial 2 rfl rfl agg24 (wc x0) rfl rfl rfl ?_
  refine J.build rfl rfl (W 256) (fun w => by kernel_rfl) ?_
  refine J.call0 (k := .l) trivial fok54 rfl rfl (fun w hw => Wa.Lt w _ _) ?_
  refine J.not rfl rfl (by rw [← decide_not]) ?_
  refine J.end ?_
  refine X.then ?_
  refine T.cond_dec rfl (fun h1 => ?_) (fun h1 => ?_)
  · skip
    refine T.seq ?_
    refine T.text [.l, .l] rfl ?_
    refine J.loadN (k := .l) trivial 5 rfl rfl agg24 [.int .u64 0, .int .u64 0, .int .u64 0, .int .u64 0] rfl rfl rfl ?_
    refine J.store 4 rfl rfl rfl rfl [.int .u64 0, .int .u64 0, .int .u64 0, .int .u64 0] rfl sz24 (by first | decide | exact Nat.le_refl _ | exact Nat.le_of_ble_eq_true rfl | (simp [rowN]; done) | (simp [rowN]; omega)) (by first | exact rowN_one _ _ | (simp; done) | (intro u hu; simp at hu; subst hu; rfl) | (intro u hu; simp at hu; rcases hu with rfl | rfl <;> rfl)) (by first | decide | exact Nat.zero_lt_succ _ | simp) trivial [.int .u64 0, .int .u64 0, .int .u64 0, .int .u64 0] rfl ?_
    refine J.end ?_
    refine X.then ?_
    refine T.ret ?_
    refine X.then_ret ?_
    exact X.ret1 rfl (RV.agg 4 rfl rfl agg24 [.int .u64 0, .int .u64 0, .int .u64 0, .int .u64 0] (by rfl) (by rfl) rfl) (fun w' hw' => ⟨by rw [shlN_zero _ _ (by omega)]; rfl, hw'.sub (Sub.nil _)⟩)
  · have hlx : lim x0 0 = x0 % 2 ^ 256 := lim_low (by omega)
    have hS : x0 % 2 ^ 256 = 64 * (lim x0 0 / 64) + (lim x0 0 % 64) := by omega
    have hp : (lim x0 0 % 64) < 64 := by omega
    have hw4 : (lim x0 0 / 64) < 4 := by omega
    refine T.skip ?_
    refine X.then ?_
    refine T.seq ?_
    refine T.draw [] [(0, .g), (1, .q), (2, .g), (3, .g), (4, .g), (5, .q), (6, .g), (7, .g), (8, .g)] (by kernel_rfl) (by kernel_rfl) ?_ (by repeat (first | exact Sub.nil _ | refine Sub.cons (by first | rfl | (rw [dgs_zero]; rfl) | (rw [List.drop_length]; rfl) | (simp; done) | (congr 2; omega) | (congr 3; omega)) ?_))
    refine J.indexArr arr24 rfl rfl (by omega) (by omega) (by rfl) rfl ?_
    refine J.load1 (k := .q) trivial 2 rfl rfl one22 (by exact wc_at _ 0 (by omega)) rfl ?_
    have hl15 := lim_lt x0 0
    refine J.quo rfl rfl rfl (by omega) (by first | exact quou_nat _ 64 (by omega) | exact u64_quo_ok _ _ (by omega) | exact rfl) ?_
    refine J.conv (by rw [Tryd.underlying22]; rfl) Tryd.underlying3 rfl rfl (by first | exact wrap_nat64 _ (by omega) | exact i64_ok _ (by omega) | exact rfl) ?_
    refine J.indexArr arr24 rfl rfl (by omega) (by omega) (by rfl) rfl ?_
    refine J.load1 (k := .q) trivial 2 rfl rfl one22 (by exact wc_at _ 0 (by omega)) rfl ?_
    have hl19 := lim_lt x0 0
    refine J.rem rfl rfl rfl (by omega) (by first | exact rem_nat _ 64 | exact rem_ok _ _ (by omega) | exact rfl) ?_
    refine J.assign rfl rfl ?_
    refine J.assign rfl rfl ?_
    refine J.end ?_
    refine X.then ?_
    refine T.seq ?_
    refine T.seq ?_
    refine T.text [.l] rfl ?_
    refine J.assign rfl rfl ?_
    refine J.end ?_
    refine X.then ?_
    refine T.block ?_
    refine T.loop (ι := Nat × List Nat) (fun ((u, ys) : Nat × List Nat) => (lim x0 0 / 64) ≤ u ∧ u ≤ 4 ∧ ys.length = 4 ∧ (∀ q, u ≤ q → q < 4 → ys.getD q 0 = lim (shlN x0 x1) q) ∧ ∀ q, q < u → ys.getD q 0 = 0) (fun ((u, ys) : Nat × List Nat) => [(0, W x0), (1, W x1), (2, .pointer (some ⟨g2, 0, none⟩)), (3, .pointer (some ⟨g3, 0, none⟩)), (4, .pointer (some ⟨g4, 0, none⟩)), (5, .pointer (some ⟨g5, 0, none⟩)), (9, W x0), (10, (W 256)), (15, .int .u64 ((lim x0 0 : Nat) : Int)), (19, .int .u64 ((lim x0 0 : Nat) : Int)), (8, .int .i64 ((u : Int) - 1)), (6, .int .i64 (((lim x0 0 / 64) : Nat) : Int)), (7, .int .u64 (((lim x0 0 % 64) : Nat) : Int))]) (fun ((u, ys) : Nat × List Nat) => [(2, ⟨some g2, 24, (wc x0)⟩), (3, ⟨some g3, 24, (wc x1)⟩), (4, ⟨some g4, 24, [.int .u64 0, .int .u64 0, .int .u64 0, .int .u64 0]⟩), (5, ⟨some g5, 24, rowN .u64 ys⟩)]) (fun ((u, ys) : Nat × List Nat) => u) ⟨4, [0, 0, 0, 0]⟩ ⟨by omega, by omega, rfl, fun q h1 h2 => by omega, fun q hq => by rcases q with _ | _ | _ | _ | q <;> first | rfl | omega⟩ (by repeat (first | exact Sub.nil _ | refine Sub.cons (by first | rfl | (rw [dgs_zero]; rfl) | (rw [List.drop_length]; rfl) | (simp; done) | (congr 2; omega) | (congr 3; omega)) ?_)) (by repeat (first | exact Sub.nil _ | refine Sub.cons (by first | rfl | (rw [dgs_zero]; rfl) | (rw [List.drop_length]; rfl) | (simp; done) | (congr 2; omega) | (congr 3; omega)) ?_)) ?_
    rintro ⟨u, ys⟩ ⟨hwu, hu, hl, hy, hz⟩
    try dsimp only at *
    refine T.seq ?_
    refine T.seq ?_
    refine T.text [.l, .l, .l] rfl ?_
    refine J.move rfl rfl ?_
    refine J.move rfl rfl ?_
    refine J.geq rfl rfl rfl rfl ?_
    refine J.end ?_
    refine X.then ?_
    refine T.cond_dec rfl (fun h2 => ?_) (fun h2 => ?_)
    · obtain ⟨k, rfl⟩ : ∃ k, u = k + 1 := ⟨u - 1, by omega⟩
      refine T.as 8 (.int .i64 (k : Int)) rfl (by first | rfl | (congr 1; omega)) ?_
      have hk4 : k < 4 := by omega
      have hkw : (lim x0 0 / 64) ≤ k := by omega
      refine T.skip ?_
      refine X.then ?_
      refine T.seq ?_
      refine T.block ?_
      refine T.seq ?_
      refine T.text [.l, .l, .l, .l, .l, .l, .l, .l, .l, .l] rfl ?_
      refine J.move rfl rfl ?_
      refine J.move rfl rfl ?_
      refine J.move rfl rfl ?_
      refine J.sub' rfl rfl rfl (by first | exact sub_nat _ _ (by omega) | exact i64_ok _ (by omega) | exact rfl) ?_
      refine J.indexArr arr24 rfl rfl (by omega) (by omega) (by first | exact Int.toNat_natCast _ | rfl) rfl ?_
      refine J.load1 (k := .l) trivial 3 rfl rfl one22 (by exact wc_at _ _ (by omega)) rfl ?_
      have hl31 := lim_lt x1 (k - (lim x0 0 / 64))
      refine J.move rfl rfl ?_
      refine J.shl rfl rfl rfl (by omega) (by exact shl_nat' _ (lim x0 0 % 64) (by omega)) ?_
      refine J.indexArr arr24 rfl rfl (by omega) (by omega) (by first | exact Int.toNat_natCast _ | rfl) rfl ?_
      refine J.store 5 rfl rfl rfl rfl [.int .u64 ((lim x1 (k - (lim x0 0 / 64)) * 2 ^ (lim x0 0 % 64) % 18446744073709551616 : Nat) : Int)] rfl sz22 (by (try rw [rowN_length, List.length_set]); (try rw [rowN_length]); rw [hl]; show _ + 1 ≤ 4; omega) (by first | exact rowN_one _ _ | (simp; done) | (intro u hu; simp at hu; subst hu; rfl) | (intro u hu; simp at hu; rcases hu with rfl | rfl <;> rfl)) (by first | decide | exact Nat.zero_lt_succ _ | simp) trivial (rowN .u64 (ys.set k (lim x1 (k - (lim x0 0 / 64)) * 2 ^ (lim x0 0 % 64) % 18446744073709551616))) (by rw [Nat.zero_add, Nat.mul_one]; exact (putN' _ _ _ _ (by first | omega | (rw [List.length_set]; omega)))) ?_
      refine J.end ?_
      refine X.then ?_
      refine T.seq ?_
      refine T.text [.l, .l, .l, .l, .l, .l, .l] rfl ?_
      refine J.move rfl rfl ?_
      refine J.move rfl rfl ?_
      refine J.gtr rfl rfl rfl rfl ?_
      refine J.move rfl rfl ?_
      refine J.split 38 rfl (fun h3 => ?_) (fun h3 => ?_)
      · skip
        refine J.yes rfl rfl ?_
        refine J.move rfl rfl ?_
        refine J.yes rfl rfl ?_
        refine J.gtr rfl rfl rfl rfl ?_
        refine J.pick_t rfl rfl rfl ?_
        refine J.end ?_
        refine X.then ?_
        refine T.cond_dec rfl (fun h4 => ?_) (fun h4 => ?_)
        · skip
          refine T.draw [] [(0, .g), (1, .g), (2, .q), (3, .g), (4, .g), (5, .g), (6, .g), (7, .g), (8, .q), (9, .g), (10, .g), (11, .g), (12, .g), (13, .g), (14, .l)] (by kernel_rfl) (by kernel_rfl) ?_ (by repeat (first | exact Sub.nil _ | refine Sub.cons (by first | rfl | (rw [dgs_zero]; rfl) | (rw [List.drop_length]; rfl) | (simp; done) | (congr 2; omega) | (congr 3; omega)) ?_))
          refine J.move rfl rfl ?_
          refine J.indexArr arr24 rfl rfl (by omega) (by omega) (by first | exact Int.toNat_natCast _ | rfl) rfl ?_
          refine J.load1 (k := .q) trivial 5 rfl rfl one22 (by exact rowN_get0 _ _ _ (by rw [List.length_set]; omega)) rfl ?_
          refine J.as 44 (.int .u64 ((lim x1 (k - (lim x0 0 / 64)) * 2 ^ (lim x0 0 % 64) % 18446744073709551616 : Nat) : Int)) rfl (by rw [getD_set _ _ _ _ (by omega), if_pos rfl]) ?_
          refine J.move rfl rfl ?_
          refine J.move rfl rfl ?_
          refine J.sub' rfl rfl rfl (by first | exact sub_nat _ _ (by omega) | exact i64_ok _ (by omega) | exact rfl) ?_
          refine J.sub' rfl rfl rfl (by first | exact sub_nat _ 1 (by omega) | exact i64_ok _ (by omega) | exact rfl) ?_
          refine J.indexArr arr24 rfl rfl (by omega) (by omega) (by first | exact Int.toNat_natCast _ | rfl) rfl ?_
          refine J.load1 (k := .q) trivial 3 rfl rfl one22 (by exact wc_at _ _ (by omega)) rfl ?_
          have hl50 := lim_lt x1 (k - (lim x0 0 / 64) - 1)
          refine J.move rfl rfl ?_
          refine J.sub' rfl rfl rfl (by first | exact subu_nat 64 _ (by omega) | exact u64_ok _ (by omega) | exact u64_wrap _) ?_
          refine J.shr rfl rfl rfl (by omega) (by exact shr_nat _ (64 - (lim x0 0 % 64)) (by omega)) ?_
          refine J.bor rfl rfl rfl (by exact or_nat _ _ ⟨Nat.mod_lt _ (by omega), Nat.lt_of_le_of_lt (Nat.div_le_self _ _) hl50⟩) ?_
          refine J.indexArr arr24 rfl rfl (by omega) (by omega) (by first | exact Int.toNat_natCast _ | rfl) rfl ?_
          refine J.store 5 rfl rfl rfl rfl [.int .u64 ((lim x1 (k - (lim x0 0 / 64)) * 2 ^ (lim x0 0 % 64) % 18446744073709551616 ||| lim x1 (k - (lim x0 0 / 64) - 1) / 2 ^ (64 - (lim x0 0 % 64)) : Nat) : Int)] rfl sz22 (by rw [rowN_length, List.length_set, hl]; show _ + 1 ≤ 4; omega) (by first | exact rowN_one _ _ | (simp; done) | (intro u hu; simp at hu; subst hu; rfl) | (intro u hu; simp at hu; rcases hu with rfl | rfl <;> rfl)) (by first | decide | exact Nat.zero_lt_succ _ | simp) trivial (rowN .u64 (ys.set k (lim (shlN x0 x1) k))) (by rw [Nat.zero_add, Nat.mul_one]; exact (putN' _ _ _ _ (by rw [List.length_set]; omega)).trans (congrArg (rowN .u64) (by rw [List.set_set, shl_both hS hp (by omega) hk4]))) ?_
          refine J.end ?_
          refine X.inBlock (X.then ?_)
          refine T.text [.l, .l, .l] rfl ?_
          refine J.move rfl rfl ?_
          refine J.sub' rfl rfl rfl (by exact i64_ok _ (by omega)) ?_
          refine J.assign rfl rfl ?_
          refine J.end ?_
          exact X.round ⟨k, (ys.set k (lim (shlN x0 x1) k))⟩ ⟨by omega, by omega, by simp [hl], set_down hl hk4 hy (by first | rfl | exact shl_last hS hp (by omega) hk4 (by omega)), set_zlow hl hk4 hz⟩ (by first | omega | (dsimp only; omega)) (by repeat (first | exact Sub.nil _ | refine Sub.cons (by first | rfl | (rw [dgs_zero]; rfl) | (rw [List.drop_length]; rfl) | (simp; done) | (congr 2; omega) | (congr 3; omega)) ?_)) (by repeat (first | exact Sub.nil _ | refine Sub.cons (by first | rfl | (rw [dgs_zero]; rfl) | (rw [List.drop_length]; rfl) | (simp; done) | (congr 2; omega) | (congr 3; omega)) ?_))
        · skip
          refine T.skip ?_
          refine X.inBlock (X.then ?_)
          refine T.text [.l, .l, .l] rfl ?_
          refine J.move rfl rfl ?_
          refine J.sub' rfl rfl rfl (by exact i64_ok _ (by omega)) ?_
          refine J.assign rfl rfl ?_
          refine J.end ?_
          exact X.round ⟨k, (ys.set k (lim x1 (k - (lim x0 0 / 64)) * 2 ^ (lim x0 0 % 64) % 18446744073709551616))⟩ ⟨by omega, by omega, by simp [hl], set_down hl hk4 hy (by first | rfl | exact shl_last hS hp (by omega) hk4 (by omega)), set_zlow hl hk4 hz⟩ (by first | omega | (dsimp only; omega)) (by repeat (first | exact Sub.nil _ | refine Sub.cons (by first | rfl | (rw [dgs_zero]; rfl) | (rw [List.drop_length]; rfl) | (simp; done) | (congr 2; omega) | (congr 3; omega)) ?_)) (by repeat (first | exact Sub.nil _ | refine Sub.cons (by first | rfl | (rw [dgs_zero]; rfl) | (rw [List.drop_length]; rfl) | (simp; done) | (congr 2; omega) | (congr 3; omega)) ?_))
      · skip
        refine J.no rfl rfl rfl rfl ?_
        refine J.no rfl rfl rfl rfl ?_
        refine J.pick_f rfl rfl rfl ?_
        refine J.end ?_
        refine X.then ?_
        refine T.cond_false rfl ?_
        refine T.skip ?_
        refine X.inBlock (X.then ?_)
        refine T.text [.l, .l, .l] rfl ?_
        refine J.move rfl rfl ?_
        refine J.sub' rfl rfl rfl (by exact i64_ok _ (by omega)) ?_
        refine J.assign rfl rfl ?_
        refine J.end ?_
        exact X.round ⟨k, (ys.set k (lim x1 (k - (lim x0 0 / 64)) * 2 ^ (lim x0 0 % 64) % 18446744073709551616))⟩ ⟨by omega, by omega, by simp [hl], set_down hl hk4 hy (by first | rfl | exact shl_last hS hp (by omega) hk4 (by omega)), set_zlow hl hk4 hz⟩ (by first | omega | (dsimp only; omega)) (by repeat (first | exact Sub.nil _ | refine Sub.cons (by first | rfl | (rw [dgs_zero]; rfl) | (rw [List.drop_length]; rfl) | (simp; done) | (congr 2; omega) | (congr 3; omega)) ?_)) (by repeat (first | exact Sub.nil _ | refine Sub.cons (by first | rfl | (rw [dgs_zero]; rfl) | (rw [List.drop_length]; rfl) | (simp; done) | (congr 2; omega) | (congr 3; omega)) ?_))
    · obtain rfl : ys = wl (shlN x0 x1) := wl_of hl _ (fun q hq => by
      rcases Nat.lt_or_ge q (lim x0 0 / 64) with h | h
      · rw [hz q (by omega), shl_lim x1 q hS hp hw4 hq, if_pos h]
      · exact hy q (by omega) hq)
      refine T.exit ?_
      refine X.then_exit (X.then_exit (X.inBlock_eq (X.then ?_)))
      refine T.seq ?_
      refine T.text [.l, .l] rfl ?_
      refine J.loadN (k := .l) trivial 5 rfl rfl agg24 (wc (shlN x0 x1)) rfl rfl rfl ?_
      refine J.store 4 rfl rfl rfl rfl (wc (shlN x0 x1)) rfl sz24 (by first | decide | exact Nat.le_refl _ | exact Nat.le_of_ble_eq_true rfl | (simp [rowN]; done) | (simp [rowN]; omega)) (by first | exact rowN_one _ _ | (simp; done) | (intro u hu; simp at hu; subst hu; rfl) | (intro u hu; simp at hu; rcases hu with rfl | rfl <;> rfl)) (by first | decide | exact Nat.zero_lt_succ _ | simp) trivial (wc (shlN x0 x1)) rfl ?_
      refine J.end ?_
      refine X.then ?_
      refine T.ret ?_
      exact X.ret1 rfl (RV.agg 4 rfl rfl agg24 (wc (shlN x0 x1)) (by rfl) (by rfl) rfl) (fun w' hw' => ⟨rfl, hw'.sub (Sub.nil _)⟩)

theorem Shr (w : World) (x0 : Nat) (x1 : Nat) :
    Calls Tryd.prog 60 [W x0, W x1].toArray w fun e w' => e = .returned (W (shrN x0 x1)) ∧ WS w [] [] w' := by
  refine calls_of_T [] 59 [] Tryd.func60 rfl Tryd.ntmps60 (by simp) (WS.refl _ _) ?_
  refine T.seq ?_
  refine T.text [.l, .l, .l] rfl ?_
  refine J.box 2 rfl rfl (wc x0) rfl rfl (fun g2 hg2 => ?_)
  refine J.box 3 rfl rfl (wc x1) rfl rfl (fun g3 hg3 => ?_)
  refine J.alloc 4 rfl zero24 [.int .u64 0, .int .u64 0, .int .u64 0, .int .u64 0] rfl rfl (fun g4 hg4 => ?_)
  refine J.end ?_
  refine X.then ?_
  refine T.seq ?_
  refine T.text [.l] rfl ?_
  refine J.alloc 5 rfl zero24 [.int .u64 0, .int .u64 0, .int .u64 0, .int .u64 0] rfl rfl (fun g5 hg5 => ?_)
  refine J.end ?_
  refine X.then ?_
  refine T.seq ?_
  refine T.seq ?_
  refine T.text [.l, .l, .l, .l] rfl ?_
  refine J.loadN (k := .l) trivial 2 rfl rfl agg24 (wc x0) rfl rfl rfl ?_
  refine J.build rfl rfl (W 256) (fun w => by kernel_rfl) ?_
  refine J.call0 (k := .l) trivial fok54 rfl rfl (fun w hw => Wa.Lt w _ _) ?_
  refine J.not rfl rfl (by rw [← decide_not]) ?_
  refine J.end ?_
  refine X.then ?_
  refine T.cond_dec rfl (fun h1 => ?_) (fun h1 => ?_)
  · skip
    refine T.seq ?_
    refine T.text [.l, .l] rfl ?_
    refine J.loadN (k := .l) trivial 5 rfl rfl agg24 [.int .u64 0, .int .u64 0, .int .u64 0, .int .u64 0] rfl rfl rfl ?_
    refine J.store 4 rfl rfl rfl rfl [.int .u64 0, .int .u64 0, .int .u64 0, .int .u64 0] rfl sz24 (by first | decide | exact Nat.le_refl _ | exact Nat.le_of_ble_eq_true rfl | (simp [rowN]; done) | (simp [rowN]; omega)) (by first | exact rowN_one _ _ | (simp; done) | (intro u hu; simp at hu; subst hu; rfl) | (intro u hu; simp at hu; rcases hu with rfl | rfl <;> rfl)) (by first | decide | exact Nat.zero_lt_succ _ | simp) trivial [.int .u64 0, .int .u64 0, .int .u64 0, .int .u64 0] rfl ?_
    refine J.end ?_
    refine X.then ?_
    refine T.ret ?_
    refine X.then_ret ?_
    exact X.ret1 rfl (RV.agg 4 rfl rfl agg24 [.int .u64 0, .int .u64 0, .int .u64 0, .int .u64 0] (by rfl) (by rfl) rfl) (fun w' hw' => ⟨by rw [shrN_zero _ _ (by omega)]; rfl, hw'.sub (Sub.nil _)⟩)
  · have hlx : lim x0 0 = x0 % 2 ^ 256 := lim_low (by omega)
    have hS : x0 % 2 ^ 256 = 64 * (lim x0 0 / 64) + (lim x0 0 % 64) := by omega
    have hp : (lim x0 0 % 64) < 64 := by omega
    have hw4 : (lim x0 0 / 64) < 4 := by omega
    refine T.skip ?_
    refine X.then ?_
    refine T.seq ?_
    refine T.draw [] [(0, .g), (1, .q), (2, .g), (3, .g), (4, .g), (5, .q), (6, .g), (7, .g), (8, .g)] (by kernel_rfl) (by kernel_rfl) ?_ (by repeat (first | exact Sub.nil _ | refine Sub.cons (by first | rfl | (rw [dgs_zero]; rfl) | (rw [List.drop_length]; rfl) | (simp; done) | (congr 2; omega) | (congr 3; omega)) ?_))
    refine J.indexArr arr24 rfl rfl (by omega) (by omega) (by rfl) rfl ?_
    refine J.load1 (k := .q) trivial 2 rfl rfl one22 (by exact wc_at _ 0 (by omega)) rfl ?_
    have hl15 := lim_lt x0 0
    refine J.quo rfl rfl rfl (by omega) (by first | exact quou_nat _ 64 (by omega) | exact u64_quo_ok _ _ (by omega) | exact rfl) ?_
    refine J.conv (by rw [Tryd.underlying22]; rfl) Tryd.underlying3 rfl rfl (by first | exact wrap_nat64 _ (by omega) | exact i64_ok _ (by omega) | exact rfl) ?_
    refine J.indexArr arr24 rfl rfl (by omega) (by omega) (by rfl) rfl ?_
    refine J.load1 (k := .q) trivial 2 rfl rfl one22 (by exact wc_at _ 0 (by omega)) rfl ?_
    have hl19 := lim_lt x0 0
    refine J.rem rfl rfl rfl (by omega) (by first | exact rem_nat _ 64 | exact rem_ok _ _ (by omega) | exact rfl) ?_
    refine J.assign rfl rfl ?_
    refine J.assign rfl rfl ?_
    refine J.end ?_
    refine X.then ?_
    refine T.seq ?_
    refine T.seq ?_
    refine T.text [.l] rfl ?_
    refine J.assign rfl rfl ?_
    refine J.end ?_
    refine X.then ?_
    refine T.block ?_
    refine T.loop (ι := Nat × List Nat) (fun ((i, ys) : Nat × List Nat) => i + (lim x0 0 / 64) ≤ 4 ∧ ys.length = 4 ∧ (∀ q, q < i → ys.getD q 0 = lim (shrN x0 x1) q) ∧ ∀ q, i ≤ q → ys.getD q 0 = 0) (fun ((i, ys) : Nat × List Nat) => [(0, W x0), (1, W x1), (2, .pointer (some ⟨g2, 0, none⟩)), (3, .pointer (some ⟨g3, 0, none⟩)), (4, .pointer (some ⟨g4, 0, none⟩)), (5, .pointer (some ⟨g5, 0, none⟩)), (9, W x0), (10, (W 256)), (15, .int .u64 ((lim x0 0 : Nat) : Int)), (19, .int .u64 ((lim x0 0 : Nat) : Int)), (8, .int .i64 (i : Int)), (6, .int .i64 (((lim x0 0 / 64) : Nat) : Int)), (7, .int .u64 (((lim x0 0 % 64) : Nat) : Int))]) (fun ((i, ys) : Nat × List Nat) => [(2, ⟨some g2, 24, (wc x0)⟩), (3, ⟨some g3, 24, (wc x1)⟩), (4, ⟨some g4, 24, [.int .u64 0, .int .u64 0, .int .u64 0, .int .u64 0]⟩), (5, ⟨some g5, 24, rowN .u64 ys⟩)]) (fun ((i, ys) : Nat × List Nat) => 4 - i) ⟨0, [0, 0, 0, 0]⟩ ⟨by omega, rfl, fun q h1 => by omega, fun q _ => by rcases q with _ | _ | _ | _ | q <;> rfl⟩ (by repeat (first | exact Sub.nil _ | refine Sub.cons (by first | rfl | (rw [dgs_zero]; rfl) | (rw [List.drop_length]; rfl) | (simp; done) | (congr 2; omega) | (congr 3; omega)) ?_)) (by repeat (first | exact Sub.nil _ | refine Sub.cons (by first | rfl | (rw [dgs_zero]; rfl) | (rw [List.drop_length]; rfl) | (simp; done) | (congr 2; omega) | (congr 3; omega)) ?_)) ?_
    rintro ⟨i, ys⟩ ⟨hiw, hl, hy, hz⟩
    try dsimp only at *
    refine T.seq ?_
    refine T.seq ?_
    refine T.text [.l, .l, .l, .l] rfl ?_
    refine J.move rfl rfl ?_
    refine J.move rfl rfl ?_
    refine J.add rfl rfl rfl (by first | exact add_nat _ _ (by omega) | exact i64_ok _ (by omega) | exact rfl) ?_
    refine J.lss rfl rfl rfl rfl ?_
    refine J.end ?_
    refine X.then ?_
    refine T.cond_dec rfl (fun h2 => ?_) (fun h2 => ?_)
    · have hi4 : i < 4 := by omega
      have hiw4 : i + (lim x0 0 / 64) < 4 := by omega
      refine T.skip ?_
      refine X.then ?_
      refine T.seq ?_
      refine T.block ?_
      refine T.seq ?_
      refine T.text [.l, .l, .l, .l, .l, .l, .l, .l, .l, .l] rfl ?_
      refine J.move rfl rfl ?_
      refine J.move rfl rfl ?_
      refine J.move rfl rfl ?_
      refine J.add rfl rfl rfl (by first | exact add_nat _ _ (by omega) | exact i64_ok _ (by omega) | exact rfl) ?_
      refine J.indexArr arr24 rfl rfl (by omega) (by omega) (by first | exact Int.toNat_natCast _ | rfl) rfl ?_
      refine J.load1 (k := .l) trivial 3 rfl rfl one22 (by exact wc_at _ _ (by omega)) rfl ?_
      have hl32 := lim_lt x1 (i + (lim x0 0 / 64))
      refine J.move rfl rfl ?_
      refine J.shr rfl rfl rfl (by omega) (by exact shr_nat _ (lim x0 0 % 64) (by omega)) ?_
      refine J.indexArr arr24 rfl rfl (by omega) (by omega) (by first | exact Int.toNat_natCast _ | rfl) rfl ?_
      refine J.store 5 rfl rfl rfl rfl [.int .u64 ((lim x1 (i + (lim x0 0 / 64)) / 2 ^ (lim x0 0 % 64) : Nat) : Int)] rfl sz22 (by (try rw [rowN_length, List.length_set]); (try rw [rowN_length]); rw [hl]; show _ + 1 ≤ 4; omega) (by first | exact rowN_one _ _ | (simp; done) | (intro u hu; simp at hu; subst hu; rfl) | (intro u hu; simp at hu; rcases hu with rfl | rfl <;> rfl)) (by first | decide | exact Nat.zero_lt_succ _ | simp) trivial (rowN .u64 (ys.set i (lim x1 (i + (lim x0 0 / 64)) / 2 ^ (lim x0 0 % 64)))) (by rw [Nat.zero_add, Nat.mul_one]; exact (putN' _ _ _ _ (by first | omega | (rw [List.length_set]; omega)))) ?_
      refine J.end ?_
      refine X.then ?_
      refine T.seq ?_
      refine T.text [.l, .l, .l, .l, .l, .l, .l, .l] rfl ?_
      refine J.move rfl rfl ?_
      refine J.move rfl rfl ?_
      refine J.add rfl rfl rfl (by first | exact add_nat _ _ (by omega) | exact i64_ok _ (by omega) | exact rfl) ?_
      refine J.lss rfl rfl rfl rfl ?_
      refine J.move rfl rfl ?_
      refine J.split 40 rfl (fun h3 => ?_) (fun h3 => ?_)
      · skip
        refine J.yes rfl rfl ?_
        refine J.move rfl rfl ?_
        refine J.yes rfl rfl ?_
        refine J.gtr rfl rfl rfl rfl ?_
        refine J.pick_t rfl rfl rfl ?_
        refine J.end ?_
        refine X.then ?_
        refine T.cond_dec rfl (fun h4 => ?_) (fun h4 => ?_)
        · skip
          refine T.draw [] [(0, .g), (1, .g), (2, .q), (3, .g), (4, .g), (5, .g), (6, .g), (7, .g), (8, .q), (9, .g), (10, .g), (11, .g), (12, .g), (13, .g), (14, .l)] (by kernel_rfl) (by kernel_rfl) ?_ (by repeat (first | exact Sub.nil _ | refine Sub.cons (by first | rfl | (rw [dgs_zero]; rfl) | (rw [List.drop_length]; rfl) | (simp; done) | (congr 2; omega) | (congr 3; omega)) ?_))
          refine J.move rfl rfl ?_
          refine J.indexArr arr24 rfl rfl (by omega) (by omega) (by first | exact Int.toNat_natCast _ | rfl) rfl ?_
          refine J.load1 (k := .q) trivial 5 rfl rfl one22 (by exact rowN_get0 _ _ _ (by rw [List.length_set]; omega)) rfl ?_
          refine J.as 46 (.int .u64 ((lim x1 (i + (lim x0 0 / 64)) / 2 ^ (lim x0 0 % 64) : Nat) : Int)) rfl (by rw [getD_set _ _ _ _ (by omega), if_pos rfl]) ?_
          refine J.move rfl rfl ?_
          refine J.move rfl rfl ?_
          refine J.add rfl rfl rfl (by first | exact add_nat _ _ (by omega) | exact i64_ok _ (by omega) | exact rfl) ?_
          refine J.add rfl rfl rfl (by first | exact add_nat _ 1 (by omega) | exact i64_ok _ (by omega) | exact rfl) ?_
          refine J.indexArr arr24 rfl rfl (by omega) (by omega) (by first | exact Int.toNat_natCast _ | rfl) rfl ?_
          refine J.load1 (k := .q) trivial 3 rfl rfl one22 (by exact wc_at _ _ (by omega)) rfl ?_
          have hl52 := lim_lt x1 (i + (lim x0 0 / 64) + 1)
          refine J.move rfl rfl ?_
          refine J.sub' rfl rfl rfl (by first | exact subu_nat 64 _ (by omega) | exact u64_ok _ (by omega) | exact u64_wrap _) ?_
          refine J.shl rfl rfl rfl (by omega) (by exact shl_nat' _ (64 - (lim x0 0 % 64)) (by omega)) ?_
          refine J.bor rfl rfl rfl (by exact or_nat _ _ ⟨Nat.lt_of_le_of_lt (Nat.div_le_self _ _) (lim_lt _ _), Nat.mod_lt _ (by omega)⟩) ?_
          refine J.indexArr arr24 rfl rfl (by omega) (by omega) (by first | exact Int.toNat_natCast _ | rfl) rfl ?_
          refine J.store 5 rfl rfl rfl rfl [.int .u64 ((lim x1 (i + (lim x0 0 / 64)) / 2 ^ (lim x0 0 % 64) ||| lim x1 (i + (lim x0 0 / 64) + 1) * 2 ^ (64 - (lim x0 0 % 64)) % 18446744073709551616 : Nat) : Int)] rfl sz22 (by rw [rowN_length, List.length_set, hl]; show _ + 1 ≤ 4; omega) (by first | exact rowN_one _ _ | (simp; done) | (intro u hu; simp at hu; subst hu; rfl) | (intro u hu; simp at hu; rcases hu with rfl | rfl <;> rfl)) (by first | decide | exact Nat.zero_lt_succ _ | simp) trivial (rowN .u64 (ys.set i (lim (shrN x0 x1) i))) (by rw [Nat.zero_add, Nat.mul_one]; exact (putN' _ _ _ _ (by rw [List.length_set]; omega)).trans (congrArg (rowN .u64) (by rw [List.set_set, shr_both hS hp (by omega)]))) ?_
          refine J.end ?_
          refine X.inBlock (X.then ?_)
          refine T.text [.l, .l, .l] rfl ?_
          refine J.move rfl rfl ?_
          refine J.add rfl rfl rfl (by first | exact add_nat _ 1 (by omega) | exact i64_ok _ (by omega) | exact rfl) ?_
          refine J.assign rfl rfl ?_
          refine J.end ?_
          exact X.round ⟨(i + 1), (ys.set i (lim (shrN x0 x1) i))⟩ ⟨by omega, by simp [hl], set_low hl hi4 hy (by first | rfl | exact shr_last hS hp hiw4 (by omega)), set_zhigh hl hi4 hz⟩ (by first | omega | (dsimp only; omega)) (by repeat (first | exact Sub.nil _ | refine Sub.cons (by first | rfl | (rw [dgs_zero]; rfl) | (rw [List.drop_length]; rfl) | (simp; done) | (congr 2; omega) | (congr 3; omega)) ?_)) (by repeat (first | exact Sub.nil _ | refine Sub.cons (by first | rfl | (rw [dgs_zero]; rfl) | (rw [List.drop_length]; rfl) | (simp; done) | (congr 2; omega) | (congr 3; omega)) ?_))
        · skip
          refine T.skip ?_
          refine X.inBlock (X.then ?_)
          refine T.text [.l, .l, .l] rfl ?_
          refine J.move rfl rfl ?_
          refine J.add rfl rfl rfl (by first | exact add_nat _ 1 (by omega) | exact i64_ok _ (by omega) | exact rfl) ?_
          refine J.assign rfl rfl ?_
          refine J.end ?_
          exact X.round ⟨(i + 1), (ys.set i (lim x1 (i + (lim x0 0 / 64)) / 2 ^ (lim x0 0 % 64)))⟩ ⟨by omega, by simp [hl], set_low hl hi4 hy (by first | rfl | exact shr_last hS hp hiw4 (by omega)), set_zhigh hl hi4 hz⟩ (by first | omega | (dsimp only; omega)) (by repeat (first | exact Sub.nil _ | refine Sub.cons (by first | rfl | (rw [dgs_zero]; rfl) | (rw [List.drop_length]; rfl) | (simp; done) | (congr 2; omega) | (congr 3; omega)) ?_)) (by repeat (first | exact Sub.nil _ | refine Sub.cons (by first | rfl | (rw [dgs_zero]; rfl) | (rw [List.drop_length]; rfl) | (simp; done) | (congr 2; omega) | (congr 3; omega)) ?_))
      · skip
        refine J.no rfl rfl rfl rfl ?_
        refine J.no rfl rfl rfl rfl ?_
        refine J.pick_f rfl rfl rfl ?_
        refine J.end ?_
        refine X.then ?_
        refine T.cond_false rfl ?_
        refine T.skip ?_
        refine X.inBlock (X.then ?_)
        refine T.text [.l, .l, .l] rfl ?_
        refine J.move rfl rfl ?_
        refine J.add rfl rfl rfl (by first | exact add_nat _ 1 (by omega) | exact i64_ok _ (by omega) | exact rfl) ?_
        refine J.assign rfl rfl ?_
        refine J.end ?_
        exact X.round ⟨(i + 1), (ys.set i (lim x1 (i + (lim x0 0 / 64)) / 2 ^ (lim x0 0 % 64)))⟩ ⟨by omega, by simp [hl], set_low hl hi4 hy (by first | rfl | exact shr_last hS hp hiw4 (by omega)), set_zhigh hl hi4 hz⟩ (by first | omega | (dsimp only; omega)) (by repeat (first | exact Sub.nil _ | refine Sub.cons (by first | rfl | (rw [dgs_zero]; rfl) | (rw [List.drop_length]; rfl) | (simp; done) | (congr 2; omega) | (congr 3; omega)) ?_)) (by repeat (first | exact Sub.nil _ | refine Sub.cons (by first | rfl | (rw [dgs_zero]; rfl) | (rw [List.drop_length]; rfl) | (simp; done) | (congr 2; omega) | (congr 3; omega)) ?_))
    · obtain rfl : ys = wl (shrN x0 x1) := wl_of hl _ (fun q hq => by
      rcases Nat.lt_or_ge q i with h | h
      · exact hy q h
      · rw [hz q (by omega), shr_lim x1 q hS hp hw4 hq, if_neg (by omega)])
      refine T.exit ?_
      refine X.then_exit (X.then_exit (X.inBlock_eq (X.then ?_)))
      refine T.seq ?_
      refine T.text [.l, .l] rfl ?_
      refine J.loadN (k := .l) trivial 5 rfl rfl agg24 (wc (shrN x0 x1)) rfl rfl rfl ?_
      refine J.store 4 rfl rfl rfl rfl (wc (shrN x0 x1)) rfl sz24 (by first | decide | exact Nat.le_refl _ | exact Nat.le_of_ble_eq_true rfl | (simp [rowN]; done) | (simp [rowN]; omega)) (by first | exact rowN_one _ _ | (simp; done) | (intro u hu; simp at hu; subst hu; rfl) | (intro u hu; simp at hu; rcases hu with rfl | rfl <;> rfl)) (by first | decide | exact Nat.zero_lt_succ _ | simp) trivial (wc (shrN x0 x1)) rfl ?_
      refine J.end ?_
      refine X.then ?_
      refine T.ret ?_
      exact X.ret1 rfl (RV.agg 4 rfl rfl agg24 (wc (shrN x0 x1)) (by rfl) (by rfl) rfl) (fun w' hw' => ⟨rfl, hw'.sub (Sub.nil _)⟩)

theorem Sar (w : World) (x0 : Nat) (x1 : Nat) :
    Calls Tryd.prog 42 [W x0, W x1].toArray w fun e w' => e = .returned (W (sarN x0 x1)) ∧ WS w [] [] w' := by
  refine calls_of_T [] 15 [] Tryd.func42 rfl Tryd.ntmps42 (by simp) (WS.refl _ _) ?_
  refine T.seq ?_
  refine T.text [.l, .l, .l] rfl ?_
  refine J.box 2 rfl rfl (wc x0) rfl rfl (fun g2 hg2 => ?_)
  refine J.box 3 rfl rfl (wc x1) rfl rfl (fun g3 hg3 => ?_)
  refine J.alloc 4 rfl zero24 [.int .u64 0, .int .u64 0, .int .u64 0, .int .u64 0] rfl rfl (fun g4 hg4 => ?_)
  refine J.end ?_
  refine X.then ?_
  refine T.seq ?_
  refine T.seq ?_
  refine T.text [.l, .l] rfl ?_
  refine J.loadN (k := .l) trivial 3 rfl rfl agg24 (wc x1) rfl rfl rfl ?_
  refine J.call0 (k := .l) trivial fok122 rfl rfl (fun w hw => We.below w _) ?_
  refine J.end ?_
  refine X.then ?_
  refine T.cond_dec rfl (fun h1 => ?_) (fun h1 => ?_)
  · skip
    refine T.seq ?_
    refine T.draw [] [(0, .q), (1, .q), (2, .q), (3, .q), (4, .q), (5, .l)] (by kernel_rfl) (by kernel_rfl) ?_ (by repeat (first | exact Sub.nil _ | refine Sub.cons (by first | rfl | (rw [dgs_zero]; rfl) | (rw [List.drop_length]; rfl) | (simp; done) | (congr 2; omega) | (congr 3; omega)) ?_))
    refine J.loadN (k := .q) trivial 2 rfl rfl agg24 (wc x0) rfl rfl rfl ?_
    refine J.loadN (k := .q) trivial 3 rfl rfl agg24 (wc x1) rfl rfl rfl ?_
    refine J.call0 (k := .q) trivial fok61 rfl rfl (fun w hw => We.Not w _) ?_
    refine J.call0 (k := .q) trivial fok60 rfl rfl (fun w hw => We.Shr w _ _) ?_
    refine J.call0 (k := .q) trivial fok61 rfl rfl (fun w hw => We.Not w _) ?_
    refine J.store 4 rfl rfl rfl rfl (wc (notN ((shrN x0 ((notN x1)))))) rfl sz24 (by first | decide | exact Nat.le_refl _ | exact Nat.le_of_ble_eq_true rfl | (simp [rowN]; done) | (simp [rowN]; omega)) (by first | exact rowN_one _ _ | (simp; done) | (intro u hu; simp at hu; subst hu; rfl) | (intro u hu; simp at hu; rcases hu with rfl | rfl <;> rfl)) (by first | decide | exact Nat.zero_lt_succ _ | simp) trivial (wc (notN ((shrN x0 ((notN x1)))))) rfl ?_
    refine J.end ?_
    refine X.then ?_
    refine T.ret ?_
    refine X.then_ret ?_
    exact X.ret1 rfl (RV.agg 4 rfl rfl agg24 (wc (notN ((shrN x0 ((notN x1)))))) (by rfl) (by rfl) rfl) (fun w' hw' => ⟨retW (by unfold sarN; rw [if_pos (by assumption)]), hw'.sub (Sub.nil _)⟩)
  · skip
    refine T.skip ?_
    refine X.then ?_
    refine T.seq ?_
    refine T.text [.l, .l, .l, .l] rfl ?_
    refine J.loadN (k := .l) trivial 2 rfl rfl agg24 (wc x0) rfl rfl rfl ?_
    refine J.loadN (k := .l) trivial 3 rfl rfl agg24 (wc x1) rfl rfl rfl ?_
    refine J.call0 (k := .l) trivial fok60 rfl rfl (fun w hw => We.Shr w _ _) ?_
    refine J.store 4 rfl rfl rfl rfl (wc (shrN x0 x1)) rfl sz24 (by first | decide | exact Nat.le_refl _ | exact Nat.le_of_ble_eq_true rfl | (simp [rowN]; done) | (simp [rowN]; omega)) (by first | exact rowN_one _ _ | (simp; done) | (intro u hu; simp at hu; subst hu; rfl) | (intro u hu; simp at hu; rcases hu with rfl | rfl <;> rfl)) (by first | decide | exact Nat.zero_lt_succ _ | simp) trivial (wc (shrN x0 x1)) rfl ?_
    refine J.end ?_
    refine X.then ?_
    refine T.ret ?_
    exact X.ret1 rfl (RV.agg 4 rfl rfl agg24 (wc (shrN x0 x1)) (by rfl) (by rfl) rfl) (fun w' hw' => ⟨retW (by unfold sarN; rw [if_neg (by assumption)]), hw'.sub (Sub.nil _)⟩)

theorem Byte (w : World) (x0 : Nat) (x1 : Nat) :
    Calls Tryd.prog 69 [W x0, W x1].toArray w fun e w' => e = .returned (W (byteN x0 x1)) ∧ WS w [] [] w' := by
  refine calls_of_T [] 19 [] Tryd.func69 rfl Tryd.ntmps69 (by simp) (WS.refl _ _) ?_
  refine T.seq ?_
  refine T.text [.l, .l, .l] rfl ?_
  refine J.box 2 rfl rfl (wc x0) rfl rfl (fun g2 hg2 => ?_)
  refine J.box 3 rfl rfl (wc x1) rfl rfl (fun g3 hg3 => ?_)
  refine J.alloc 4 rfl zero24 [.int .u64 0, .int .u64 0, .int .u64 0, .int .u64 0] rfl rfl (fun g4 hg4 => ?_)
  refine J.end ?_
  refine X.then ?_
  refine T.seq ?_
  refine T.seq ?_
  refine T.text [.l, .l, .l, .l] rfl ?_
  refine J.loadN (k := .l) trivial 2 rfl rfl agg24 (wc x0) rfl rfl rfl ?_
  refine J.build rfl rfl (W 32) (fun w => by kernel_rfl) ?_
  refine J.call0 (k := .l) trivial fok54 rfl rfl (fun w hw => Wa.Lt w _ _) ?_
  refine J.not rfl rfl (by rw [← decide_not]) ?_
  refine J.end ?_
  refine X.then ?_
  refine T.cond_dec rfl (fun h1 => ?_) (fun h1 => ?_)
  · skip
    refine T.seq ?_
    refine T.text [.l, .l] rfl ?_
    refine J.build rfl rfl (W 0) (fun w => by kernel_rfl) ?_
    refine J.store 4 rfl rfl rfl rfl (wc 0) rfl sz24 (by first | decide | exact Nat.le_refl _ | exact Nat.le_of_ble_eq_true rfl | (simp [rowN]; done) | (simp [rowN]; omega)) (by first | exact rowN_one _ _ | (simp; done) | (intro u hu; simp at hu; subst hu; rfl) | (intro u hu; simp at hu; rcases hu with rfl | rfl <;> rfl)) (by first | decide | exact Nat.zero_lt_succ _ | simp) trivial (wc 0) rfl ?_
    refine J.end ?_
    refine X.then ?_
    refine T.ret ?_
    refine X.then_ret ?_
    exact X.ret1 rfl (RV.agg 4 rfl rfl agg24 (wc 0) (by rfl) (by rfl) rfl) (fun w' hw' => ⟨retW (by unfold byteN; rw [if_neg (by omega)]), hw'.sub (Sub.nil _)⟩)
  · have hlx : lim x0 0 = x0 % 2 ^ 256 := lim_low (by omega)
    refine T.skip ?_
    refine X.then ?_
    refine T.seq ?_
    refine T.text [.l, .l, .l, .l] rfl ?_
    refine J.loadN (k := .l) trivial 3 rfl rfl agg24 (wc x1) rfl rfl rfl ?_
    refine J.call0 (k := .l) trivial fok88 rfl rfl (fun w hw => Wa.Bytes w _) ?_
    refine J.alloc 5 rfl zero39 [.int .u8 0, .int .u8 0, .int .u8 0, .int .u8 0, .int .u8 0, .int .u8 0, .int .u8 0, .int .u8 0, .int .u8 0, .int .u8 0, .int .u8 0, .int .u8 0, .int .u8 0, .int .u8 0, .int .u8 0, .int .u8 0, .int .u8 0, .int .u8 0, .int .u8 0, .int .u8 0, .int .u8 0, .int .u8 0, .int .u8 0, .int .u8 0, .int .u8 0, .int .u8 0, .int .u8 0, .int .u8 0, .int .u8 0, .int .u8 0, .int .u8 0, .int .u8 0] rfl rfl (fun g5 hg5 => ?_)
    refine J.store 5 rfl rfl rfl rfl (rowN .u8 (bytesN x1)) rfl (by rw [rowN_length, bytesN_length]; exact sz39) (by rw [rowN_length, bytesN_length]; exact Nat.le_refl _) (by first | exact rowN_one _ _ | (simp; done) | (intro u hu; simp at hu; subst hu; rfl) | (intro u hu; simp at hu; rcases hu with rfl | rfl <;> rfl)) (by rw [rowN_length, bytesN_length]; decide) trivial (rowN .u8 (bytesN x1)) (by unfold put; rw [rowN_length, bytesN_length]; exact List.append_nil _) ?_
    refine J.end ?_
    refine X.then ?_
    refine T.seq ?_
    refine T.text [.l, .l, .l, .l, .l, .l, .l] rfl ?_
    refine J.indexArr arr24 rfl rfl (by omega) (by omega) (by rfl) rfl ?_
    refine J.load1 (k := .l) trivial 2 rfl rfl one22 (by exact wc_at _ 0 (by omega)) rfl ?_
    have hl14 := lim_lt x0 0
    refine J.indexArr arr39 rfl rfl (by omega) (by omega) (by first | exact Int.toNat_natCast _ | rfl) rfl ?_
    refine J.load1 (k := .l) trivial 5 rfl rfl one5 (by exact rowN_get0 _ _ _ (by rw [bytesN_length]; omega)) rfl ?_
    refine J.as 16 (.int .u8 ((byteN x0 x1 : Nat) : Int)) rfl (by rw [hlx, bytesN_get _ _ (by omega)]; unfold byteN; rw [if_pos (by omega)]) ?_
    have hby : byteN x0 x1 < 256 := by unfold byteN; split <;> omega
    refine J.conv (by rw [Tryd.underlying5]; rfl) Tryd.underlying22 rfl rfl (by first | exact wrapu_nat' _ (by omega) | exact wrapu_nat _ | exact u64_wrap _) ?_
    refine J.build rfl rfl (.agg ([.int .u64 ((byteN x0 x1 : Nat) : Int), .int .u64 0, .int .u64 0, .int .u64 0] : List Value).toArray) (fun w => by kernel_rfl) ?_
    refine J.as 18 (W (byteN x0 x1)) rfl (W_small (by first | omega | (refine ⟨?_, ?_, ?_, ?_⟩ <;> omega))) ?_
    refine J.store 4 rfl rfl rfl rfl (wc (byteN x0 x1)) rfl sz24 (by first | decide | exact Nat.le_refl _ | exact Nat.le_of_ble_eq_true rfl | (simp [rowN]; done) | (simp [rowN]; omega)) (by first | exact rowN_one _ _ | (simp; done) | (intro u hu; simp at hu; subst hu; rfl) | (intro u hu; simp at hu; rcases hu with rfl | rfl <;> rfl)) (by first | decide | exact Nat.zero_lt_succ _ | simp) trivial (wc (byteN x0 x1)) rfl ?_
    refine J.end ?_
    refine X.then ?_
    refine T.ret ?_
    exact X.ret1 rfl (RV.agg 4 rfl rfl agg24 (wc (byteN x0 x1)) (by rfl) (by rfl) rfl) (fun w' hw' => ⟨rfl, hw'.sub (Sub.nil _)⟩)

theorem Exp (w : World) (x0 : Nat) (x1 : Nat) :
    Calls Tryd.prog 50 [W x0, W x1].toArray w fun e w' => e = .returned (W (powN x0 x1)) ∧ WS w [] [] w' := by
  refine calls_of_T [] 24 [] Tryd.func50 rfl Tryd.ntmps50 (by simp) (WS.refl _ _) ?_
  refine T.seq ?_
  refine T.text [.l, .l, .l] rfl ?_
  refine J.box 2 rfl rfl (wc x0) rfl rfl (fun g2 hg2 => ?_)
  refine J.box 3 rfl rfl (wc x1) rfl rfl (fun g3 hg3 => ?_)
  refine J.alloc 4 rfl zero24 [.int .u64 0, .int .u64 0, .int .u64 0, .int .u64 0] rfl rfl (fun g4 hg4 => ?_)
  refine J.end ?_
  refine X.then ?_
  refine T.seq ?_
  refine T.text [.l, .l, .l] rfl ?_
  refine J.build rfl rfl (W 1) (fun w => by kernel_rfl) ?_
  refine J.alloc 5 rfl zero24 [.int .u64 0, .int .u64 0, .int .u64 0, .int .u64 0] rfl rfl (fun g5 hg5 => ?_)
  refine J.store 5 rfl rfl rfl rfl (wc 1) rfl sz24 (by first | decide | exact Nat.le_refl _ | exact Nat.le_of_ble_eq_true rfl | (simp [rowN]; done) | (simp [rowN]; omega)) (by first | exact rowN_one _ _ | (simp; done) | (intro u hu; simp at hu; subst hu; rfl) | (intro u hu; simp at hu; rcases hu with rfl | rfl <;> rfl)) (by first | decide | exact Nat.zero_lt_succ _ | simp) trivial (wc 1) rfl ?_
  refine J.end ?_
  refine X.then ?_
  refine T.seq ?_
  refine T.block ?_
  refine T.loop (ι := Nat × Nat × Nat) (fun ((a, p, r) : Nat × Nat × Nat) => r * a ^ (p % 2 ^ 256) % 2 ^ 256 = powN x0 x1) (fun ((a, p, r) : Nat × Nat × Nat) => [(0, W x0), (1, W x1), (2, .pointer (some ⟨g2, 0, none⟩)), (3, .pointer (some ⟨g3, 0, none⟩)), (4, .pointer (some ⟨g4, 0, none⟩)), (5, .pointer (some ⟨g5, 0, none⟩))]) (fun ((a, p, r) : Nat × Nat × Nat) => [(4, ⟨some g4, 24, [.int .u64 0, .int .u64 0, .int .u64 0, .int .u64 0]⟩), (2, ⟨some g2, 24, wc a⟩), (3, ⟨some g3, 24, wc p⟩), (5, ⟨some g5, 24, wc r⟩)]) (fun ((a, p, r) : Nat × Nat × Nat) => p % 2 ^ 256) ⟨x0, x1, 1⟩ (by dsimp only; rw [Nat.one_mul]; rfl) (by repeat (first | exact Sub.nil _ | refine Sub.cons (by first | rfl | (rw [dgs_zero]; rfl) | (rw [List.drop_length]; rfl) | (simp; done) | (congr 2; omega) | (congr 3; omega)) ?_)) (by repeat (first | exact Sub.nil _ | refine Sub.cons (by first | rfl | (rw [dgs_zero]; rfl) | (rw [List.drop_length]; rfl) | (simp; done) | (congr 2; omega) | (congr 3; omega)) ?_)) ?_
  rintro ⟨a, p, r⟩ hr
  try dsimp only at *
  refine T.seq ?_
  refine T.seq ?_
  refine T.text [.l, .l, .l] rfl ?_
  refine J.loadN (k := .l) trivial 3 rfl rfl agg24 (wc p) rfl rfl rfl ?_
  refine J.call0 (k := .l) trivial fok81 rfl rfl (fun w hw => Wa.IsZero w _) ?_
  refine J.not rfl rfl (by rw [← decide_not]) ?_
  refine J.end ?_
  refine X.then ?_
  refine T.cond_dec rfl (fun h1 => ?_) (fun h1 => ?_)
  · have hpp : p % 2 ^ 256 / 2 < p % 2 ^ 256 := by omega
    have hpo : lim p 0 % 2 = p % 2 ^ 256 % 2 := by unfold lim; omega
    refine T.skip ?_
    refine X.then ?_
    refine T.block ?_
    refine T.seq ?_
    refine T.seq ?_
    refine T.text [.l, .l, .l, .l] rfl ?_
    refine J.indexArr arr24 rfl rfl (by omega) (by omega) (by rfl) rfl ?_
    refine J.load1 (k := .l) trivial 3 rfl rfl one22 (by exact wc_at _ 0 (by omega)) rfl ?_
    have hl11 := lim_lt p 0
    refine J.band rfl rfl rfl (by exact u64_and1 _ hl11) ?_
    refine J.eql rfl rfl rfl rfl ?_
    refine J.end ?_
    refine X.then ?_
    refine T.cond_dec rfl (fun h2 => ?_) (fun h2 => ?_)
    · have hodd : p % 2 ^ 256 % 2 = 1 := by omega
      refine T.text [.l, .l, .l, .l] rfl ?_
      refine J.loadN (k := .l) trivial 5 rfl rfl agg24 (wc r) rfl rfl rfl ?_
      refine J.loadN (k := .l) trivial 2 rfl rfl agg24 (wc a) rfl rfl rfl ?_
      refine J.call0 (k := .l) trivial fok27 rfl rfl (fun w hw => Wb.Mul w _ _) ?_
      refine J.store 5 rfl rfl rfl rfl (wc (r * a)) rfl sz24 (by first | decide | exact Nat.le_refl _ | exact Nat.le_of_ble_eq_true rfl | (simp [rowN]; done) | (simp [rowN]; omega)) (by first | exact rowN_one _ _ | (simp; done) | (intro u hu; simp at hu; subst hu; rfl) | (intro u hu; simp at hu; rcases hu with rfl | rfl <;> rfl)) (by first | decide | exact Nat.zero_lt_succ _ | simp) trivial (wc (r * a)) rfl ?_
      refine J.end ?_
      refine X.then ?_
      refine T.seq ?_
      refine T.text [.l, .l, .l, .l] rfl ?_
      refine J.loadN (k := .l) trivial 2 rfl rfl agg24 (wc a) rfl rfl rfl ?_
      refine J.loadN (k := .l) trivial 2 rfl rfl agg24 (wc a) rfl rfl rfl ?_
      refine J.call0 (k := .l) trivial fok27 rfl rfl (fun w hw => Wb.Mul w _ _) ?_
      refine J.store 2 rfl rfl rfl rfl (wc (a * a)) rfl sz24 (by first | decide | exact Nat.le_refl _ | exact Nat.le_of_ble_eq_true rfl | (simp [rowN]; done) | (simp [rowN]; omega)) (by first | exact rowN_one _ _ | (simp; done) | (intro u hu; simp at hu; subst hu; rfl) | (intro u hu; simp at hu; rcases hu with rfl | rfl <;> rfl)) (by first | decide | exact Nat.zero_lt_succ _ | simp) trivial (wc (a * a)) rfl ?_
      refine J.end ?_
      refine X.then ?_
      refine T.text [.l, .l, .l, .l] rfl ?_
      refine J.build rfl rfl (W 1) (fun w => by kernel_rfl) ?_
      refine J.loadN (k := .l) trivial 3 rfl rfl agg24 (wc p) rfl rfl rfl ?_
      refine J.call0 (k := .l) trivial fok60 rfl rfl (fun w hw => We.Shr w _ _) ?_
      refine J.store 3 rfl rfl rfl rfl (wc (shrN 1 p)) rfl sz24 (by first | decide | exact Nat.le_refl _ | exact Nat.le_of_ble_eq_true rfl | (simp [rowN]; done) | (simp [rowN]; omega)) (by first | exact rowN_one _ _ | (simp; done) | (intro u hu; simp at hu; subst hu; rfl) | (intro u hu; simp at hu; rcases hu with rfl | rfl <;> rfl)) (by first | decide | exact Nat.zero_lt_succ _ | simp) trivial (wc (shrN 1 p)) rfl ?_
      refine J.end ?_
      refine X.inBlock ?_
      have hsh := shrN_one' p
      exact X.round ⟨(a * a), (shrN 1 p), (r * a)⟩ (by dsimp only; rw [hsh, ← hr, pow_low' a (p % 2 ^ 256) r]; first | rw [if_pos (by assumption)] | rw [if_neg (by assumption)]) (by first | omega | (dsimp only; omega)) (by repeat (first | exact Sub.nil _ | refine Sub.cons (by first | rfl | (rw [dgs_zero]; rfl) | (rw [List.drop_length]; rfl) | (simp; done) | (congr 2; omega) | (congr 3; omega)) ?_)) (by repeat (first | exact Sub.nil _ | refine Sub.cons (by first | rfl | (rw [dgs_zero]; rfl) | (rw [List.drop_length]; rfl) | (simp; done) | (congr 2; omega) | (congr 3; omega)) ?_))
    · have hodd : ¬ p % 2 ^ 256 % 2 = 1 := by omega
      refine T.skip ?_
      refine X.then ?_
      refine T.seq ?_
      refine T.text [.l, .l, .l, .l] rfl ?_
      refine J.loadN (k := .l) trivial 2 rfl rfl agg24 (wc a) rfl rfl rfl ?_
      refine J.loadN (k := .l) trivial 2 rfl rfl agg24 (wc a) rfl rfl rfl ?_
      refine J.call0 (k := .l) trivial fok27 rfl rfl (fun w hw => Wb.Mul w _ _) ?_
      refine J.store 2 rfl rfl rfl rfl (wc (a * a)) rfl sz24 (by first | decide | exact Nat.le_refl _ | exact Nat.le_of_ble_eq_true rfl | (simp [rowN]; done) | (simp [rowN]; omega)) (by first | exact rowN_one _ _ | (simp; done) | (intro u hu; simp at hu; subst hu; rfl) | (intro u hu; simp at hu; rcases hu with rfl | rfl <;> rfl)) (by first | decide | exact Nat.zero_lt_succ _ | simp) trivial (wc (a * a)) rfl ?_
      refine J.end ?_
      refine X.then ?_
      refine T.text [.l, .l, .l, .l] rfl ?_
      refine J.build rfl rfl (W 1) (fun w => by kernel_rfl) ?_
      refine J.loadN (k := .l) trivial 3 rfl rfl agg24 (wc p) rfl rfl rfl ?_
      refine J.call0 (k := .l) trivial fok60 rfl rfl (fun w hw => We.Shr w _ _) ?_
      refine J.store 3 rfl rfl rfl rfl (wc (shrN 1 p)) rfl sz24 (by first | decide | exact Nat.le_refl _ | exact Nat.le_of_ble_eq_true rfl | (simp [rowN]; done) | (simp [rowN]; omega)) (by first | exact rowN_one _ _ | (simp; done) | (intro u hu; simp at hu; subst hu; rfl) | (intro u hu; simp at hu; rcases hu with rfl | rfl <;> rfl)) (by first | decide | exact Nat.zero_lt_succ _ | simp) trivial (wc (shrN 1 p)) rfl ?_
      refine J.end ?_
      refine X.inBlock ?_
      have hsh := shrN_one' p
      exact X.round ⟨(a * a), (shrN 1 p), (r)⟩ (by dsimp only; rw [hsh, ← hr, pow_low' a (p % 2 ^ 256) r]; first | rw [if_pos (by assumption)] | rw [if_neg (by assumption)]) (by first | omega | (dsimp only; omega)) (by repeat (first | exact Sub.nil _ | refine Sub.cons (by first | rfl | (rw [dgs_zero]; rfl) | (rw [List.drop_length]; rfl) | (simp; done) | (congr 2; omega) | (congr 3; omega)) ?_)) (by repeat (first | exact Sub.nil _ | refine Sub.cons (by first | rfl | (rw [dgs_zero]; rfl) | (rw [List.drop_length]; rfl) | (simp; done) | (congr 2; omega) | (congr 3; omega)) ?_))
  · skip
    refine T.exit ?_
    refine X.then_exit (X.then_exit (X.inBlock_eq (X.then ?_)))
    refine T.seq ?_
    refine T.text [.l, .l] rfl ?_
    refine J.loadN (k := .l) trivial 5 rfl rfl agg24 (wc r) rfl rfl rfl ?_
    refine J.store 4 rfl rfl rfl rfl (wc r) rfl sz24 (by first | decide | exact Nat.le_refl _ | exact Nat.le_of_ble_eq_true rfl | (simp [rowN]; done) | (simp [rowN]; omega)) (by first | exact rowN_one _ _ | (simp; done) | (intro u hu; simp at hu; subst hu; rfl) | (intro u hu; simp at hu; rcases hu with rfl | rfl <;> rfl)) (by first | decide | exact Nat.zero_lt_succ _ | simp) trivial (wc r) rfl ?_
    refine J.end ?_
    refine X.then ?_
    refine T.ret ?_
    exact X.ret1 rfl (RV.agg 4 rfl rfl agg24 (wc r) (by rfl) (by rfl) rfl) (fun w' hw' => ⟨retW (by rw [← hr, show p % 2 ^ 256 = 0 by omega, Nat.pow_zero, Nat.mul_one, Nat.mod_mod]), hw'.sub (Sub.nil _)⟩)

theorem SignExtend (w : World) (x0 : Nat) (x1 : Nat) :
    Calls Tryd.prog 44 [W x0, W x1].toArray w fun e w' => e = .returned (W (sxN x0 x1)) ∧ WS w [] [] w' := by
  refine calls_of_T [] 21 [] Tryd.func44 rfl Tryd.ntmps44 (by simp) (WS.refl _ _) ?_
  refine T.seq ?_
  refine T.text [.l, .l, .l] rfl ?_
  refine J.box 2 rfl rfl (wc x0) rfl rfl (fun g2 hg2 => ?_)
  refine J.box 3 rfl rfl (wc x1) rfl rfl (fun g3 hg3 => ?_)
  refine J.alloc 4 rfl zero24 [.int .u64 0, .int .u64 0, .int .u64 0, .int .u64 0] rfl rfl (fun g4 hg4 => ?_)
  refine J.end ?_
  refine X.then ?_
  refine T.seq ?_
  refine T.seq ?_
  refine T.text [.l, .l, .l, .l] rfl ?_
  refine J.loadN (k := .l) trivial 2 rfl rfl agg24 (wc x0) rfl rfl rfl ?_
  refine J.build rfl rfl (W 31) (fun w => by kernel_rfl) ?_
  refine J.call0 (k := .l) trivial fok54 rfl rfl (fun w hw => Wa.Lt w _ _) ?_
  refine J.not rfl rfl (by rw [← decide_not]) ?_
  refine J.end ?_
  refine X.then ?_
  refine T.cond_dec rfl (fun h1 => ?_) (fun h1 => ?_)
  · skip
    refine T.seq ?_
    refine T.text [.l, .l] rfl ?_
    refine J.loadN (k := .l) trivial 3 rfl rfl agg24 (wc x1) rfl rfl rfl ?_
    refine J.store 4 rfl rfl rfl rfl (wc x1) rfl sz24 (by first | decide | exact Nat.le_refl _ | exact Nat.le_of_ble_eq_true rfl | (simp [rowN]; done) | (simp [rowN]; omega)) (by first | exact rowN_one _ _ | (simp; done) | (intro u hu; simp at hu; subst hu; rfl) | (intro u hu; simp at hu; rcases hu with rfl | rfl <;> rfl)) (by first | decide | exact Nat.zero_lt_succ _ | simp) trivial (wc x1) rfl ?_
    refine J.end ?_
    refine X.then ?_
    refine T.ret ?_
    refine X.then_ret ?_
    exact X.ret1 rfl (RV.agg 4 rfl rfl agg24 (wc x1) (by rfl) (by rfl) rfl) (fun w' hw' => ⟨retW (by unfold sxN; rw [if_neg (by omega)]), hw'.sub (Sub.nil _)⟩)
  · have hlx : lim x0 0 = x0 % 2 ^ 256 := lim_low (by omega)
    refine T.skip ?_
    refine X.then ?_
    refine T.seq ?_
    refine T.text [.l, .l, .l, .l, .l, .l, .l] rfl ?_
    refine J.indexArr arr24 rfl rfl (by omega) (by omega) (by rfl) rfl ?_
    refine J.load1 (k := .l) trivial 2 rfl rfl one22 (by exact wc_at _ 0 (by omega)) rfl ?_
    have hl12 := lim_lt x0 0
    refine J.mul rfl rfl rfl (by first | exact mulu_nat 8 _ (by omega) | exact u64_ok _ (by omega) | exact u64_wrap _) ?_
    refine J.sub' rfl rfl rfl (by first | exact subu_nat 248 _ (by omega) | exact u64_ok _ (by omega) | exact u64_wrap _) ?_
    refine J.build rfl rfl (.agg ([.int .u64 ((248 - 8 * lim x0 0 : Nat) : Int), .int .u64 0, .int .u64 0, .int .u64 0] : List Value).toArray) (fun w => by kernel_rfl) ?_
    refine J.as 15 (W (248 - 8 * lim x0 0)) rfl (W_small (by first | omega | (refine ⟨?_, ?_, ?_, ?_⟩ <;> omega))) ?_
    refine J.alloc 5 rfl zero24 [.int .u64 0, .int .u64 0, .int .u64 0, .int .u64 0] rfl rfl (fun g5 hg5 => ?_)
    refine J.store 5 rfl rfl rfl rfl (wc (248 - 8 * lim x0 0)) rfl sz24 (by first | decide | exact Nat.le_refl _ | exact Nat.le_of_ble_eq_true rfl | (simp [rowN]; done) | (simp [rowN]; omega)) (by first | exact rowN_one _ _ | (simp; done) | (intro u hu; simp at hu; subst hu; rfl) | (intro u hu; simp at hu; rcases hu with rfl | rfl <;> rfl)) (by first | decide | exact Nat.zero_lt_succ _ | simp) trivial (wc (248 - 8 * lim x0 0)) rfl ?_
    refine J.end ?_
    refine X.then ?_
    refine T.seq ?_
    refine T.draw [] [(0, .q), (1, .q), (2, .q), (3, .q), (4, .q), (5, .l)] (by kernel_rfl) (by kernel_rfl) ?_ (by repeat (first | exact Sub.nil _ | refine Sub.cons (by first | rfl | (rw [dgs_zero]; rfl) | (rw [List.drop_length]; rfl) | (simp; done) | (congr 2; omega) | (congr 3; omega)) ?_))
    refine J.loadN (k := .q) trivial 5 rfl rfl agg24 (wc (248 - 8 * lim x0 0)) rfl rfl rfl ?_
    refine J.loadN (k := .q) trivial 5 rfl rfl agg24 (wc (248 - 8 * lim x0 0)) rfl rfl rfl ?_
    refine J.loadN (k := .q) trivial 3 rfl rfl agg24 (wc x1) rfl rfl rfl ?_
    refine J.call0 (k := .q) trivial fok59 rfl rfl (fun w hw => We.Shl w _ _) ?_
    refine J.call0 (k := .q) trivial fok42 rfl rfl (fun w hw => We.Sar w _ _) ?_
    refine J.store 4 rfl rfl rfl rfl (wc (sarN ((248 - 8 * lim x0 0)) ((shlN ((248 - 8 * lim x0 0)) x1)))) rfl sz24 (by first | decide | exact Nat.le_refl _ | exact Nat.le_of_ble_eq_true rfl | (simp [rowN]; done) | (simp [rowN]; omega)) (by first | exact rowN_one _ _ | (simp; done) | (intro u hu; simp at hu; subst hu; rfl) | (intro u hu; simp at hu; rcases hu with rfl | rfl <;> rfl)) (by first | decide | exact Nat.zero_lt_succ _ | simp) trivial (wc (sarN ((248 - 8 * lim x0 0)) ((shlN ((248 - 8 * lim x0 0)) x1)))) rfl ?_
    refine J.end ?_
    refine X.then ?_
    refine T.ret ?_
    exact X.ret1 rfl (RV.agg 4 rfl rfl agg24 (wc (sarN ((248 - 8 * lim x0 0)) ((shlN ((248 - 8 * lim x0 0)) x1)))) (by rfl) (by rfl) rfl) (fun w' hw' => ⟨retW (by unfold sxN; rw [if_pos (by omega), hlx]), hw'.sub (Sub.nil _)⟩)

theorem Clz (w : World) (x0 : Nat) :
    Calls Tryd.prog 73 [W x0].toArray w fun e w' => e = .returned (W (256 - bitLen (x0 % 2 ^ 256))) ∧ WS w [] [] w' := by
  refine calls_of_T [] 7 [] Tryd.func73 rfl Tryd.ntmps73 (by simp) (WS.refl _ _) ?_
  refine T.seq ?_
  refine T.text [.l, .l] rfl ?_
  refine J.box 1 rfl rfl (wc x0) rfl rfl (fun g1 hg1 => ?_)
  refine J.alloc 2 rfl zero24 [.int .u64 0, .int .u64 0, .int .u64 0, .int .u64 0] rfl rfl (fun g2 hg2 => ?_)
  refine J.end ?_
  refine X.then ?_
  refine T.seq ?_
  refine T.text [.l, .l, .l, .l, .l] rfl ?_
  refine J.loadN (k := .l) trivial 1 rfl rfl agg24 (wc x0) rfl rfl rfl ?_
  refine J.call0 (k := .l) trivial fok134 rfl rfl (fun w hw => Wa.ahead w _) ?_
  refine J.conv (by rw [Tryd.underlying3]; rfl) Tryd.underlying22 rfl rfl (by first | exact wrapu_nat' _ (by omega) | exact wrapu_nat _ | exact u64_wrap _) ?_
  refine J.build rfl rfl (.agg ([.int .u64 ((256 - bitLen (x0 % 2 ^ 256) : Nat) : Int), .int .u64 0, .int .u64 0, .int .u64 0] : List Value).toArray) (fun w => by kernel_rfl) ?_
  refine J.as 6 (W (256 - bitLen (x0 % 2 ^ 256))) rfl (W_small (by first | omega | (refine ⟨?_, ?_, ?_, ?_⟩ <;> omega))) ?_
  refine J.store 2 rfl rfl rfl rfl (wc (256 - bitLen (x0 % 2 ^ 256))) rfl sz24 (by first | decide | exact Nat.le_refl _ | exact Nat.le_of_ble_eq_true rfl | (simp [rowN]; done) | (simp [rowN]; omega)) (by first | exact rowN_one _ _ | (simp; done) | (intro u hu; simp at hu; subst hu; rfl) | (intro u hu; simp at hu; rcases hu with rfl | rfl <;> rfl)) (by first | decide | exact Nat.zero_lt_succ _ | simp) trivial (wc (256 - bitLen (x0 % 2 ^ 256))) rfl ?_
  refine J.end ?_
  refine X.then ?_
  refine T.ret ?_
  exact X.ret1 rfl (RV.agg 2 rfl rfl agg24 (wc (256 - bitLen (x0 % 2 ^ 256))) (by rfl) (by rfl) rfl) (fun w' hw' => ⟨rfl, hw'.sub (Sub.nil _)⟩)

theorem truth (w : World) (p : Prop) [Decidable p] :
    Calls Tryd.prog 156 [.bool (decide p)].toArray w fun e w' => e = .returned (W (if p then 1 else 0)) ∧ WS w [] [] w' := by
  refine calls_of_T [] 6 [] Tryd.func156 rfl Tryd.ntmps156 (by simp) (WS.refl _ _) ?_
  refine T.seq ?_
  refine T.text [.l] rfl ?_
  refine J.alloc 2 rfl zero24 [.int .u64 0, .int .u64 0, .int .u64 0, .int .u64 0] rfl rfl (fun g2 hg2 => ?_)
  refine J.end ?_
  refine X.then ?_
  refine T.seq ?_
  refine T.seq ?_
  refine T.text [.l] rfl ?_
  refine J.move rfl rfl ?_
  refine J.end ?_
  refine X.then ?_
  refine T.cond_dec rfl (fun h1 => ?_) (fun h1 => ?_)
  · skip
    refine T.seq ?_
    refine T.text [.l, .l] rfl ?_
    refine J.build rfl rfl (W 1) (fun w => by kernel_rfl) ?_
    refine J.store 2 rfl rfl rfl rfl (wc 1) rfl sz24 (by first | decide | exact Nat.le_refl _ | exact Nat.le_of_ble_eq_true rfl | (simp [rowN]; done) | (simp [rowN]; omega)) (by first | exact rowN_one _ _ | (simp; done) | (intro u hu; simp at hu; subst hu; rfl) | (intro u hu; simp at hu; rcases hu with rfl | rfl <;> rfl)) (by first | decide | exact Nat.zero_lt_succ _ | simp) trivial (wc 1) rfl ?_
    refine J.end ?_
    refine X.then ?_
    refine T.ret ?_
    refine X.then_ret ?_
    exact X.ret1 rfl (RV.agg 2 rfl rfl agg24 (wc 1) (by rfl) (by rfl) rfl) (fun w' hw' => ⟨by rw [if_pos (by assumption)], hw'.sub (Sub.nil _)⟩)
  · skip
    refine T.skip ?_
    refine X.then ?_
    refine T.seq ?_
    refine T.text [.l, .l] rfl ?_
    refine J.build rfl rfl (W 0) (fun w => by kernel_rfl) ?_
    refine J.store 2 rfl rfl rfl rfl (wc 0) rfl sz24 (by first | decide | exact Nat.le_refl _ | exact Nat.le_of_ble_eq_true rfl | (simp [rowN]; done) | (simp [rowN]; omega)) (by first | exact rowN_one _ _ | (simp; done) | (intro u hu; simp at hu; subst hu; rfl) | (intro u hu; simp at hu; rcases hu with rfl | rfl <;> rfl)) (by first | decide | exact Nat.zero_lt_succ _ | simp) trivial (wc 0) rfl ?_
    refine J.end ?_
    refine X.then ?_
    refine T.ret ?_
    exact X.ret1 rfl (RV.agg 2 rfl rfl agg24 (wc 0) (by rfl) (by rfl) rfl) (fun w' hw' => ⟨by rw [if_neg (by assumption)], hw'.sub (Sub.nil _)⟩)

theorem SLt (w : World) (x0 : Nat) (x1 : Nat) :
    Calls Tryd.prog 38 [W x0, W x1].toArray w fun e w' => e = .returned (.bool (decide (sltP x0 x1))) ∧ WS w [] [] w' := by
  refine calls_of_T [] 15 [] Tryd.func38 rfl Tryd.ntmps38 (by simp) (WS.refl _ _) ?_
  refine T.seq ?_
  refine T.text [.l, .l, .l] rfl ?_
  refine J.box 2 rfl rfl (wc x0) rfl rfl (fun g2 hg2 => ?_)
  refine J.box 3 rfl rfl (wc x1) rfl rfl (fun g3 hg3 => ?_)
  refine J.assign rfl rfl ?_
  refine J.end ?_
  refine X.then ?_
  refine T.seq ?_
  refine T.seq ?_
  refine T.draw [] [(0, .q), (1, .q), (2, .q), (3, .q), (4, .g)] (by kernel_rfl) (by kernel_rfl) ?_ (by repeat (first | exact Sub.nil _ | refine Sub.cons (by first | rfl | (rw [dgs_zero]; rfl) | (rw [List.drop_length]; rfl) | (simp; done) | (congr 2; omega) | (congr 3; omega)) ?_))
  refine J.loadN (k := .q) trivial 2 rfl rfl agg24 (wc x0) rfl rfl rfl ?_
  refine J.call0 (k := .q) trivial fok122 rfl rfl (fun w hw => We.below w _) ?_
  refine J.loadN (k := .q) trivial 3 rfl rfl agg24 (wc x1) rfl rfl rfl ?_
  refine J.call0 (k := .q) trivial fok122 rfl rfl (fun w hw => We.below w _) ?_
  refine J.neqB Tryd.underlying4 rfl rfl rfl (by exact neqB_dec _ _) ?_
  refine J.end ?_
  refine X.then ?_
  refine T.cond_dec rfl (fun h1 => ?_) (fun h1 => ?_)
  · skip
    refine T.seq ?_
    refine T.text [.l, .l, .l] rfl ?_
    refine J.loadN (k := .l) trivial 2 rfl rfl agg24 (wc x0) rfl rfl rfl ?_
    refine J.call0 (k := .l) trivial fok122 rfl rfl (fun w hw => We.below w _) ?_
    refine J.assign rfl rfl ?_
    refine J.end ?_
    refine X.then ?_
    refine T.ret ?_
    refine X.then_ret ?_
    exact X.ret1 rfl (RV.tmp rfl) (fun w' hw' => ⟨by congr 2; exact decide_eq_decide.2 (by unfold sltP; rw [if_pos (by assumption)]), hw'.sub (Sub.nil _)⟩)
  · skip
    refine T.skip ?_
    refine X.then ?_
    refine T.seq ?_
    refine T.text [.l, .l, .l, .l] rfl ?_
    refine J.loadN (k := .l) trivial 2 rfl rfl agg24 (wc x0) rfl rfl rfl ?_
    refine J.loadN (k := .l) trivial 3 rfl rfl agg24 (wc x1) rfl rfl rfl ?_
    refine J.call0 (k := .l) trivial fok54 rfl rfl (fun w hw => Wa.Lt w _ _) ?_
    refine J.assign rfl rfl ?_
    refine J.end ?_
    refine X.then ?_
    refine T.ret ?_
    exact X.ret1 rfl (RV.tmp rfl) (fun w' hw' => ⟨by congr 2; exact decide_eq_decide.2 (by unfold sltP; rw [if_neg (by assumption)]), hw'.sub (Sub.nil _)⟩)

theorem SGt (w : World) (x0 : Nat) (x1 : Nat) :
    Calls Tryd.prog 40 [W x0, W x1].toArray w fun e w' => e = .returned (.bool (decide (sltP x1 x0))) ∧ WS w [] [] w' := by
  refine calls_of_T [] 8 [] Tryd.func40 rfl Tryd.ntmps40 (by simp) (WS.refl _ _) ?_
  refine T.seq ?_
  refine T.text [.l, .l, .l] rfl ?_
  refine J.box 2 rfl rfl (wc x0) rfl rfl (fun g2 hg2 => ?_)
  refine J.box 3 rfl rfl (wc x1) rfl rfl (fun g3 hg3 => ?_)
  refine J.assign rfl rfl ?_
  refine J.end ?_
  refine X.then ?_
  refine T.seq ?_
  refine T.text [.l, .l, .l, .l] rfl ?_
  refine J.loadN (k := .l) trivial 3 rfl rfl agg24 (wc x1) rfl rfl rfl ?_
  refine J.loadN (k := .l) trivial 2 rfl rfl agg24 (wc x0) rfl rfl rfl ?_
  refine J.call0 (k := .l) trivial fok38 rfl rfl (fun w hw => We.SLt w _ _) ?_
  refine J.assign rfl rfl ?_
  refine J.end ?_
  refine X.then ?_
  refine T.ret ?_
  exact X.ret1 rfl (RV.tmp rfl) (fun w' hw' => ⟨rfl, hw'.sub (Sub.nil _)⟩)

theorem Eq (w : World) (x0 : Nat) (x1 : Nat) :
    Calls Tryd.prog 79 [W x0, W x1].toArray w fun e w' => e = .returned (.bool (decide (x0 % 2 ^ 256 = x1 % 2 ^ 256))) ∧ WS w [] [] w' := by
  refine calls_of_T [] 8 [] Tryd.func79 rfl Tryd.ntmps79 (by simp) (WS.refl _ _) ?_
  refine T.seq ?_
  refine T.text [.l, .l, .l] rfl ?_
  refine J.box 2 rfl rfl (wc x0) rfl rfl (fun g2 hg2 => ?_)
  refine J.box 3 rfl rfl (wc x1) rfl rfl (fun g3 hg3 => ?_)
  refine J.assign rfl rfl ?_
  refine J.end ?_
  refine X.then ?_
  refine T.seq ?_
  refine T.text [.l, .l, .l, .l] rfl ?_
  refine J.loadN (k := .l) trivial 2 rfl rfl agg24 (wc x0) rfl rfl rfl ?_
  refine J.loadN (k := .l) trivial 3 rfl rfl agg24 (wc x1) rfl rfl rfl ?_
  refine J.eqW eqw24 rfl rfl rfl ?_
  refine J.assign rfl rfl ?_
  refine J.end ?_
  refine X.then ?_
  refine T.ret ?_
  exact X.ret1 rfl (RV.tmp rfl) (fun w' hw' => ⟨rfl, hw'.sub (Sub.nil _)⟩)
end Go.Proofs.YtegociefcfcihaaDoor.We
