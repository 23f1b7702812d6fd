/-
  Texts that the statement stands on, one behind the other: plain lemmas and walks of functions.
  No condition.
-/
import Derived.Test.YtegociefcfcihaaDoorChecked
import Derived.Test.YtegociefcfcihaaDoorUba
import Derived.Test.YtegociefcfcihaaDoorUbb
import Derived.Test.YtegociefcfcihaaDoorUbc
set_option linter.unusedVariables false
set_option maxRecDepth 20000
namespace Go.Proofs.YtegociefcfcihaaDoor.We
open Go Go.Fw

theorem sz39 : SizeT Tryd.prog 39 32 := (by unfold SizeT; kernel_rfl)
theorem zero8 : ZeroT Tryd.prog 67 (.agg (rowN .u64 (lg 0)).toArray) := (by unfold ZeroT; kernel_rfl)
theorem zero24 : ZeroT Tryd.prog 24 (.agg ([.int .u64 0, .int .u64 0, .int .u64 0, .int .u64 0]).toArray) := (by unfold ZeroT; kernel_rfl)
theorem sz22 : SizeT Tryd.prog 22 1 := (by unfold SizeT; kernel_rfl)
theorem arr24 : ArrT Tryd.prog 24 4 22 1 := ⟨Tryd.underlying24, sz22⟩
theorem one22 : OneT Tryd.prog 22 := ⟨⟨_, Tryd.underlying22, rfl⟩, by kernel_rfl⟩
theorem agg24 : AggT Tryd.prog 24 4 := ⟨⟨_, Tryd.underlying24, rfl⟩, by kernel_rfl⟩
theorem sz24 : SizeT Tryd.prog 24 4 := (by unfold SizeT; kernel_rfl)
theorem fok25 : FnOk Tryd.prog 25 := FnOk.mk' Tryd.func25 (by kernel_rfl) rfl
theorem fok122 : FnOk Tryd.prog 122 := FnOk.mk' Tryd.func122 (by kernel_rfl) rfl
theorem fok123 : FnOk Tryd.prog 123 := FnOk.mk' Tryd.func123 (by kernel_rfl) rfl
theorem fok81 : FnOk Tryd.prog 81 := FnOk.mk' Tryd.func81 (by kernel_rfl) rfl
theorem fok117 : FnOk Tryd.prog 117 := FnOk.mk' Tryd.func117 (by kernel_rfl) rfl
theorem fok116 : FnOk Tryd.prog 116 := FnOk.mk' Tryd.func116 (by kernel_rfl) rfl
theorem fok107 : FnOk Tryd.prog 107 := FnOk.mk' Tryd.func107 (by kernel_rfl) rfl
theorem fok114 : FnOk Tryd.prog 114 := FnOk.mk' Tryd.func114 (by kernel_rfl) rfl
theorem fok121 : FnOk Tryd.prog 121 := FnOk.mk' Tryd.func121 (by kernel_rfl) rfl
theorem fok29 : FnOk Tryd.prog 29 := FnOk.mk' Tryd.func29 (by kernel_rfl) rfl
theorem fok31 : FnOk Tryd.prog 31 := FnOk.mk' Tryd.func31 (by kernel_rfl) rfl
theorem fok54 : FnOk Tryd.prog 54 := FnOk.mk' Tryd.func54 (by kernel_rfl) rfl
theorem fok61 : FnOk Tryd.prog 61 := FnOk.mk' Tryd.func61 (by kernel_rfl) rfl
theorem fok60 : FnOk Tryd.prog 60 := FnOk.mk' Tryd.func60 (by kernel_rfl) rfl
theorem fok88 : FnOk Tryd.prog 88 := FnOk.mk' Tryd.func88 (by kernel_rfl) rfl
theorem zero39 : ZeroT Tryd.prog 39 (.agg ([.int .u8 0, .int .u8 0, .int .u8 0, .int .u8 0, .int .u8 0, .int .u8 0, .int .u8 0, .int .u8 0, .int .u8 0, .int .u8 0, .int .u8 0, .int .u8 0, .int .u8 0, .int .u8 0, .int .u8 0, .int .u8 0, .int .u8 0, .int .u8 0, .int .u8 0, .int .u8 0, .int .u8 0, .int .u8 0, .int .u8 0, .int .u8 0, .int .u8 0, .int .u8 0, .int .u8 0, .int .u8 0, .int .u8 0, .int .u8 0, .int .u8 0, .int .u8 0]).toArray) := (by unfold ZeroT; kernel_rfl)
theorem sz5 : SizeT Tryd.prog 5 1 := (by unfold SizeT; kernel_rfl)
theorem arr39 : ArrT Tryd.prog 39 32 5 1 := ⟨Tryd.underlying39, sz5⟩
theorem one5 : OneT Tryd.prog 5 := ⟨⟨_, Tryd.underlying5, rfl⟩, by kernel_rfl⟩
theorem fok27 : FnOk Tryd.prog 27 := FnOk.mk' Tryd.func27 (by kernel_rfl) rfl
theorem fok59 : FnOk Tryd.prog 59 := FnOk.mk' Tryd.func59 (by kernel_rfl) rfl
theorem fok42 : FnOk Tryd.prog 42 := FnOk.mk' Tryd.func42 (by kernel_rfl) rfl
theorem fok134 : FnOk Tryd.prog 134 := FnOk.mk' Tryd.func134 (by kernel_rfl) rfl
theorem fok38 : FnOk Tryd.prog 38 := FnOk.mk' Tryd.func38 (by kernel_rfl) rfl
theorem eqw24 : EqT Tryd.prog 24 := ⟨⟨22, arr24, one22, Tryd.underlying22⟩, by kernel_rfl⟩

theorem And (w : World) (x0 : Nat) (x1 : Nat) :
    Calls Tryd.prog 62 [W x0, W x1].toArray w fun e w' => e = .returned (W (x0 &&& x1)) ∧ WS w [] [] w' := by
  refine calls_of_T [] 19 [] Tryd.func62 rfl Tryd.ntmps62 (by simp) (WS.refl _ _) ?_
  refine T.seq ?_
  refine T.text [.l, .l, .l] rfl ?_
  refine J.box 2 rfl rfl (wc x0) rfl rfl (fun g2 hg2 => ?_)
  refine J.box 3 rfl rfl (wc x1) rfl rfl (fun g3 hg3 => ?_)
  refine J.alloc 4 rfl zero24 [.int .u64 0, .int .u64 0, .int .u64 0, .int .u64 0] rfl rfl (fun g4 hg4 => ?_)
  refine J.end ?_
  refine X.then ?_
  refine T.seq ?_
  refine T.seq ?_
  refine T.text [.l] rfl ?_
  refine J.move rfl rfl ?_
  refine J.end ?_
  refine X.then ?_
  refine T.block ?_
  refine T.loop (ι := Nat × List Nat) (fun ((i, ys) : Nat × List Nat) => i ≤ 4 ∧ ys.length = 4 ∧ (∀ q, q < i → ys.getD q 0 = lim (x0 &&& x1) q) ∧ ∀ q, i ≤ q → q < 4 → ys.getD q 0 = lim x0 q) (fun ((i, ys) : Nat × List Nat) => [(0, W x0), (1, W x1), (2, .pointer (some ⟨g2, 0, none⟩)), (3, .pointer (some ⟨g3, 0, none⟩)), (4, .pointer (some ⟨g4, 0, none⟩)), (6, .int .i64 (i : Int))]) (fun ((i, ys) : Nat × List Nat) => [(3, ⟨some g3, 24, (wc x1)⟩), (4, ⟨some g4, 24, [.int .u64 0, .int .u64 0, .int .u64 0, .int .u64 0]⟩), (2, ⟨some g2, 24, rowN .u64 ys⟩)]) (fun ((i, ys) : Nat × List Nat) => 4 - i) ⟨0, (wl x0)⟩ ⟨Nat.zero_le _, rfl, fun q hq => by omega, fun q _ hq => wl_get x0 q hq⟩ (by repeat (first | exact Sub.nil _ | refine Sub.cons (by first | rfl | (rw [dgs_zero]; rfl) | (rw [List.drop_length]; rfl) | (simp; done) | (congr 2; omega) | (congr 3; omega)) ?_)) (by repeat (first | exact Sub.nil _ | refine Sub.cons (by first | rfl | (rw [dgs_zero]; rfl) | (rw [List.drop_length]; rfl) | (simp; done) | (congr 2; omega) | (congr 3; omega)) ?_)) ?_
  rintro ⟨i, ys⟩ ⟨hi, hl, hy, hz⟩
  try dsimp only at *
  refine T.seq ?_
  refine T.text [.l] rfl ?_
  refine J.lss rfl rfl rfl rfl ?_
  refine J.end ?_
  refine X.then ?_
  refine T.seq ?_
  refine T.cond_dec rfl (fun h1 => ?_) (fun h1 => ?_)
  · have hi4 : i < 4 := by omega
    have hyi := hz i (Nat.le_refl _) hi4
    have hll := lim_lt x0 i
    have hzl := lim_and x0 x1 i
    refine T.skip ?_
    refine X.then ?_
    refine T.seq ?_
    refine T.block ?_
    refine T.seq ?_
    refine T.text [.l, .l] rfl ?_
    refine J.move rfl rfl ?_
    refine J.assign rfl rfl ?_
    refine J.end ?_
    refine X.then ?_
    refine T.draw [] [(0, .g), (1, .g), (2, .q), (3, .g), (4, .g), (5, .q), (6, .g), (7, .g), (8, .l)] (by kernel_rfl) (by kernel_rfl) ?_ (by repeat (first | exact Sub.nil _ | refine Sub.cons (by first | rfl | (rw [dgs_zero]; rfl) | (rw [List.drop_length]; rfl) | (simp; done) | (congr 2; omega) | (congr 3; omega)) ?_))
    refine J.move rfl rfl ?_
    refine J.indexArr arr24 rfl rfl (by omega) (by omega) (by first | exact Int.toNat_natCast _ | rfl) rfl ?_
    refine J.load1 (k := .q) trivial 2 rfl rfl one22 (by exact rowN_get0 _ _ _ (by omega)) rfl ?_
    refine J.as 11 (.int .u64 ((lim x0 i : Nat) : Int)) rfl (by rw [hyi]) ?_
    refine J.move rfl rfl ?_
    refine J.indexArr arr24 rfl rfl (by omega) (by omega) (by first | exact Int.toNat_natCast _ | rfl) rfl ?_
    refine J.load1 (k := .q) trivial 3 rfl rfl one22 (by exact wc_at _ _ (by omega)) rfl ?_
    have hl14 := lim_lt x1 i
    refine J.band rfl rfl rfl (by exact and64_nat _ _ (by omega)) ?_
    refine J.as 15 (.int .u64 ((lim (x0 &&& x1) i : Nat) : Int)) rfl (by rw [hzl]) ?_
    refine J.indexArr arr24 rfl rfl (by omega) (by omega) (by first | exact Int.toNat_natCast _ | rfl) rfl ?_
    refine J.store 2 rfl rfl rfl rfl [.int .u64 ((lim (x0 &&& x1) i : Nat) : Int)] rfl sz22 (by rw [rowN_length, hl]; show _ + 1 ≤ 4; omega) (by first | exact rowN_one _ _ | (simp; done) | (intro u hu; simp at hu; subst hu; rfl) | (intro u hu; simp at hu; rcases hu with rfl | rfl <;> rfl)) (by first | decide | exact Nat.zero_lt_succ _ | simp) trivial (rowN .u64 (ys.set i (lim (x0 &&& x1) i))) (by rw [Nat.zero_add, Nat.mul_one]; exact putN' _ _ _ _ (by omega)) ?_
    refine J.end ?_
    refine X.inBlock (X.then ?_)
    refine T.text [.l, .l] rfl ?_
    refine J.add rfl rfl rfl (by first | exact add_nat _ 1 (by omega) | exact i64_ok _ (by omega) | exact rfl) ?_
    refine J.move rfl rfl ?_
    refine J.end ?_
    exact X.round ⟨(i + 1), (ys.set i (lim (x0 &&& x1) i))⟩ ⟨by omega, by simp [hl], set_low hl hi4 hy rfl, set_high hl hi4 hz⟩ (by first | omega | (dsimp only; omega)) (by repeat (first | exact Sub.nil _ | refine Sub.cons (by first | rfl | (rw [dgs_zero]; rfl) | (rw [List.drop_length]; rfl) | (simp; done) | (congr 2; omega) | (congr 3; omega)) ?_)) (by repeat (first | exact Sub.nil _ | refine Sub.cons (by first | rfl | (rw [dgs_zero]; rfl) | (rw [List.drop_length]; rfl) | (simp; done) | (congr 2; omega) | (congr 3; omega)) ?_))
  · obtain rfl : i = 4 := by omega
    obtain rfl : ys = wl (x0 &&& x1) := wl_of hl _ hy
    refine T.exit ?_
    refine X.then_exit (X.then_exit (X.inBlock_eq (X.then ?_)))
    refine T.seq ?_
    refine T.text [.l, .l] rfl ?_
    refine J.loadN (k := .l) trivial 2 rfl rfl agg24 (wc (x0 &&& x1)) rfl rfl rfl ?_
    refine J.store 4 rfl rfl rfl rfl (wc (x0 &&& x1)) rfl sz24 (by first | decide | exact Nat.le_refl _ | exact Nat.le_of_ble_eq_true rfl | (simp [rowN]; done) | (simp [rowN]; omega)) (by first | exact rowN_one _ _ | (simp; done) | (intro u hu; simp at hu; subst hu; rfl) | (intro u hu; simp at hu; rcases hu with rfl | rfl <;> rfl)) (by first | decide | exact Nat.zero_lt_succ _ | simp) trivial (wc (x0 &&& x1)) rfl ?_
    refine J.end ?_
    refine X.then ?_
    refine T.ret ?_
    exact X.ret1 rfl (RV.agg 4 rfl rfl agg24 (wc (x0 &&& x1)) (by rfl) (by rfl) rfl) (fun w' hw' => ⟨rfl, hw'.sub (Sub.nil _)⟩)

theorem Or (w : World) (x0 : Nat) (x1 : Nat) :
    Calls Tryd.prog 64 [W x0, W x1].toArray w fun e w' => e = .returned (W (x0 ||| x1)) ∧ WS w [] [] w' := by
  refine calls_of_T [] 19 [] Tryd.func64 rfl Tryd.ntmps64 (by simp) (WS.refl _ _) ?_
  refine T.seq ?_
  refine T.text [.l, .l, .l] rfl ?_
  refine J.box 2 rfl rfl (wc x0) rfl rfl (fun g2 hg2 => ?_)
  refine J.box 3 rfl rfl (wc x1) rfl rfl (fun g3 hg3 => ?_)
  refine J.alloc 4 rfl zero24 [.int .u64 0, .int .u64 0, .int .u64 0, .int .u64 0] rfl rfl (fun g4 hg4 => ?_)
  refine J.end ?_
  refine X.then ?_
  refine T.seq ?_
  refine T.seq ?_
  refine T.text [.l] rfl ?_
  refine J.move rfl rfl ?_
  refine J.end ?_
  refine X.then ?_
  refine T.block ?_
  refine T.loop (ι := Nat × List Nat) (fun ((i, ys) : Nat × List Nat) => i ≤ 4 ∧ ys.length = 4 ∧ (∀ q, q < i → ys.getD q 0 = lim (x0 ||| x1) q) ∧ ∀ q, i ≤ q → q < 4 → ys.getD q 0 = lim x0 q) (fun ((i, ys) : Nat × List Nat) => [(0, W x0), (1, W x1), (2, .pointer (some ⟨g2, 0, none⟩)), (3, .pointer (some ⟨g3, 0, none⟩)), (4, .pointer (some ⟨g4, 0, none⟩)), (6, .int .i64 (i : Int))]) (fun ((i, ys) : Nat × List Nat) => [(3, ⟨some g3, 24, (wc x1)⟩), (4, ⟨some g4, 24, [.int .u64 0, .int .u64 0, .int .u64 0, .int .u64 0]⟩), (2, ⟨some g2, 24, rowN .u64 ys⟩)]) (fun ((i, ys) : Nat × List Nat) => 4 - i) ⟨0, (wl x0)⟩ ⟨Nat.zero_le _, rfl, fun q hq => by omega, fun q _ hq => wl_get x0 q hq⟩ (by repeat (first | exact Sub.nil _ | refine Sub.cons (by first | rfl | (rw [dgs_zero]; rfl) | (rw [List.drop_length]; rfl) | (simp; done) | (congr 2; omega) | (congr 3; omega)) ?_)) (by repeat (first | exact Sub.nil _ | refine Sub.cons (by first | rfl | (rw [dgs_zero]; rfl) | (rw [List.drop_length]; rfl) | (simp; done) | (congr 2; omega) | (congr 3; omega)) ?_)) ?_
  rintro ⟨i, ys⟩ ⟨hi, hl, hy, hz⟩
  try dsimp only at *
  refine T.seq ?_
  refine T.text [.l] rfl ?_
  refine J.lss rfl rfl rfl rfl ?_
  refine J.end ?_
  refine X.then ?_
  refine T.seq ?_
  refine T.cond_dec rfl (fun h1 => ?_) (fun h1 => ?_)
  · have hi4 : i < 4 := by omega
    have hyi := hz i (Nat.le_refl _) hi4
    have hll := lim_lt x0 i
    have hzl := lim_or x0 x1 i
    refine T.skip ?_
    refine X.then ?_
    refine T.seq ?_
    refine T.block ?_
    refine T.seq ?_
    refine T.text [.l, .l] rfl ?_
    refine J.move rfl rfl ?_
    refine J.assign rfl rfl ?_
    refine J.end ?_
    refine X.then ?_
    refine T.draw [] [(0, .g), (1, .g), (2, .q), (3, .g), (4, .g), (5, .q), (6, .g), (7, .g), (8, .l)] (by kernel_rfl) (by kernel_rfl) ?_ (by repeat (first | exact Sub.nil _ | refine Sub.cons (by first | rfl | (rw [dgs_zero]; rfl) | (rw [List.drop_length]; rfl) | (simp; done) | (congr 2; omega) | (congr 3; omega)) ?_))
    refine J.move rfl rfl ?_
    refine J.indexArr arr24 rfl rfl (by omega) (by omega) (by first | exact Int.toNat_natCast _ | rfl) rfl ?_
    refine J.load1 (k := .q) trivial 2 rfl rfl one22 (by exact rowN_get0 _ _ _ (by omega)) rfl ?_
    refine J.as 11 (.int .u64 ((lim x0 i : Nat) : Int)) rfl (by rw [hyi]) ?_
    refine J.move rfl rfl ?_
    refine J.indexArr arr24 rfl rfl (by omega) (by omega) (by first | exact Int.toNat_natCast _ | rfl) rfl ?_
    refine J.load1 (k := .q) trivial 3 rfl rfl one22 (by exact wc_at _ _ (by omega)) rfl ?_
    have hl14 := lim_lt x1 i
    refine J.bor rfl rfl rfl (by exact or_nat _ _ (by omega)) ?_
    refine J.as 15 (.int .u64 ((lim (x0 ||| x1) i : Nat) : Int)) rfl (by rw [hzl]) ?_
    refine J.indexArr arr24 rfl rfl (by omega) (by omega) (by first | exact Int.toNat_natCast _ | rfl) rfl ?_
    refine J.store 2 rfl rfl rfl rfl [.int .u64 ((lim (x0 ||| x1) i : Nat) : Int)] rfl sz22 (by rw [rowN_length, hl]; show _ + 1 ≤ 4; omega) (by first | exact rowN_one _ _ | (simp; done) | (intro u hu; simp at hu; subst hu; rfl) | (intro u hu; simp at hu; rcases hu with rfl | rfl <;> rfl)) (by first | decide | exact Nat.zero_lt_succ _ | simp) trivial (rowN .u64 (ys.set i (lim (x0 ||| x1) i))) (by rw [Nat.zero_add, Nat.mul_one]; exact putN' _ _ _ _ (by omega)) ?_
    refine J.end ?_
    refine X.inBlock (X.then ?_)
    refine T.text [.l, .l] rfl ?_
    refine J.add rfl rfl rfl (by first | exact add_nat _ 1 (by omega) | exact i64_ok _ (by omega) | exact rfl) ?_
    refine J.move rfl rfl ?_
    refine J.end ?_
    exact X.round ⟨(i + 1), (ys.set i (lim (x0 ||| x1) i))⟩ ⟨by omega, by simp [hl], set_low hl hi4 hy rfl, set_high hl hi4 hz⟩ (by first | omega | (dsimp only; omega)) (by repeat (first | exact Sub.nil _ | refine Sub.cons (by first | rfl | (rw [dgs_zero]; rfl) | (rw [List.drop_length]; rfl) | (simp; done) | (congr 2; omega) | (congr 3; omega)) ?_)) (by repeat (first | exact Sub.nil _ | refine Sub.cons (by first | rfl | (rw [dgs_zero]; rfl) | (rw [List.drop_length]; rfl) | (simp; done) | (congr 2; omega) | (congr 3; omega)) ?_))
  · obtain rfl : i = 4 := by omega
    obtain rfl : ys = wl (x0 ||| x1) := wl_of hl _ hy
    refine T.exit ?_
    refine X.then_exit (X.then_exit (X.inBlock_eq (X.then ?_)))
    refine T.seq ?_
    refine T.text [.l, .l] rfl ?_
    refine J.loadN (k := .l) trivial 2 rfl rfl agg24 (wc (x0 ||| x1)) rfl rfl rfl ?_
    refine J.store 4 rfl rfl rfl rfl (wc (x0 ||| x1)) rfl sz24 (by first | decide | exact Nat.le_refl _ | exact Nat.le_of_ble_eq_true rfl | (simp [rowN]; done) | (simp [rowN]; omega)) (by first | exact rowN_one _ _ | (simp; done) | (intro u hu; simp at hu; subst hu; rfl) | (intro u hu; simp at hu; rcases hu with rfl | rfl <;> rfl)) (by first | decide | exact Nat.zero_lt_succ _ | simp) trivial (wc (x0 ||| x1)) rfl ?_
    refine J.end ?_
    refine X.then ?_
    refine T.ret ?_
    exact X.ret1 rfl (RV.agg 4 rfl rfl agg24 (wc (x0 ||| x1)) (by rfl) (by rfl) rfl) (fun w' hw' => ⟨rfl, hw'.sub (Sub.nil _)⟩)

theorem Xor (w : World) (x0 : Nat) (x1 : Nat) :
    Calls Tryd.prog 66 [W x0, W x1].toArray w fun e w' => e = .returned (W (x0 ^^^ x1)) ∧ WS w [] [] w' := by
  refine calls_of_T [] 19 [] Tryd.func66 rfl Tryd.ntmps66 (by simp) (WS.refl _ _) ?_
  refine T.seq ?_
  refine T.text [.l, .l, .l] rfl ?_
  refine J.box 2 rfl rfl (wc x0) rfl rfl (fun g2 hg2 => ?_)
  refine J.box 3 rfl rfl (wc x1) rfl rfl (fun g3 hg3 => ?_)
  refine J.alloc 4 rfl zero24 [.int .u64 0, .int .u64 0, .int .u64 0, .int .u64 0] rfl rfl (fun g4 hg4 => ?_)
  refine J.end ?_
  refine X.then ?_
  refine T.seq ?_
  refine T.seq ?_
  refine T.text [.l] rfl ?_
  refine J.move rfl rfl ?_
  refine J.end ?_
  refine X.then ?_
  refine T.block ?_
  refine T.loop (ι := Nat × List Nat) (fun ((i, ys) : Nat × List Nat) => i ≤ 4 ∧ ys.length = 4 ∧ (∀ q, q < i → ys.getD q 0 = lim (x0 ^^^ x1) q) ∧ ∀ q, i ≤ q → q < 4 → ys.getD q 0 = lim x0 q) (fun ((i, ys) : Nat × List Nat) => [(0, W x0), (1, W x1), (2, .pointer (some ⟨g2, 0, none⟩)), (3, .pointer (some ⟨g3, 0, none⟩)), (4, .pointer (some ⟨g4, 0, none⟩)), (6, .int .i64 (i : Int))]) (fun ((i, ys) : Nat × List Nat) => [(3, ⟨some g3, 24, (wc x1)⟩), (4, ⟨some g4, 24, [.int .u64 0, .int .u64 0, .int .u64 0, .int .u64 0]⟩), (2, ⟨some g2, 24, rowN .u64 ys⟩)]) (fun ((i, ys) : Nat × List Nat) => 4 - i) ⟨0, (wl x0)⟩ ⟨Nat.zero_le _, rfl, fun q hq => by omega, fun q _ hq => wl_get x0 q hq⟩ (by repeat (first | exact Sub.nil _ | refine Sub.cons (by first | rfl | (rw [dgs_zero]; rfl) | (rw [List.drop_length]; rfl) | (simp; done) | (congr 2; omega) | (congr 3; omega)) ?_)) (by repeat (first | exact Sub.nil _ | refine Sub.cons (by first | rfl | (rw [dgs_zero]; rfl) | (rw [List.drop_length]; rfl) | (simp; done) | (congr 2; omega) | (congr 3; omega)) ?_)) ?_
  rintro ⟨i, ys⟩ ⟨hi, hl, hy, hz⟩
  try dsimp only at *
  refine T.seq ?_
  refine T.text [.l] rfl ?_
  refine J.lss rfl rfl rfl rfl ?_
  refine J.end ?_
  refine X.then ?_
  refine T.seq ?_
  refine T.cond_dec rfl (fun h1 => ?_) (fun h1 => ?_)
  · have hi4 : i < 4 := by omega
    have hyi := hz i (Nat.le_refl _) hi4
    have hll := lim_lt x0 i
    have hzl := lim_xor x0 x1 i
    refine T.skip ?_
    refine X.then ?_
    refine T.seq ?_
    refine T.block ?_
    refine T.seq ?_
    refine T.text [.l, .l] rfl ?_
    refine J.move rfl rfl ?_
    refine J.assign rfl rfl ?_
    refine J.end ?_
    refine X.then ?_
    refine T.draw [] [(0, .g), (1, .g), (2, .q), (3, .g), (4, .g), (5, .q), (6, .g), (7, .g), (8, .l)] (by kernel_rfl) (by kernel_rfl) ?_ (by repeat (first | exact Sub.nil _ | refine Sub.cons (by first | rfl | (rw [dgs_zero]; rfl) | (rw [List.drop_length]; rfl) | (simp; done) | (congr 2; omega) | (congr 3; omega)) ?_))
    refine J.move rfl rfl ?_
    refine J.indexArr arr24 rfl rfl (by omega) (by omega) (by first | exact Int.toNat_natCast _ | rfl) rfl ?_
    refine J.load1 (k := .q) trivial 2 rfl rfl one22 (by exact rowN_get0 _ _ _ (by omega)) rfl ?_
    refine J.as 11 (.int .u64 ((lim x0 i : Nat) : Int)) rfl (by rw [hyi]) ?_
    refine J.move rfl rfl ?_
    refine J.indexArr arr24 rfl rfl (by omega) (by omega) (by first | exact Int.toNat_natCast _ | rfl) rfl ?_
    refine J.load1 (k := .q) trivial 3 rfl rfl one22 (by exact wc_at _ _ (by omega)) rfl ?_
    have hl14 := lim_lt x1 i
    refine J.bxor rfl rfl rfl (by exact xor64_nat _ _ (by omega)) ?_
    refine J.as 15 (.int .u64 ((lim (x0 ^^^ x1) i : Nat) : Int)) rfl (by rw [hzl]) ?_
    refine J.indexArr arr24 rfl rfl (by omega) (by omega) (by first | exact Int.toNat_natCast _ | rfl) rfl ?_
    refine J.store 2 rfl rfl rfl rfl [.int .u64 ((lim (x0 ^^^ x1) i : Nat) : Int)] rfl sz22 (by rw [rowN_length, hl]; show _ + 1 ≤ 4; omega) (by first | exact rowN_one _ _ | (simp; done) | (intro u hu; simp at hu; subst hu; rfl) | (intro u hu; simp at hu; rcases hu with rfl | rfl <;> rfl)) (by first | decide | exact Nat.zero_lt_succ _ | simp) trivial (rowN .u64 (ys.set i (lim (x0 ^^^ x1) i))) (by rw [Nat.zero_add, Nat.mul_one]; exact putN' _ _ _ _ (by omega)) ?_
    refine J.end ?_
    refine X.inBlock (X.then ?_)
    refine T.text [.l, .l] rfl ?_
    refine J.add rfl rfl rfl (by first | exact add_nat _ 1 (by omega) | exact i64_ok _ (by omega) | exact rfl) ?_
    refine J.move rfl rfl ?_
    refine J.end ?_
    exact X.round ⟨(i + 1), (ys.set i (lim (x0 ^^^ x1) i))⟩ ⟨by omega, by simp [hl], set_low hl hi4 hy rfl, set_high hl hi4 hz⟩ (by first | omega | (dsimp only; omega)) (by repeat (first | exact Sub.nil _ | refine Sub.cons (by first | rfl | (rw [dgs_zero]; rfl) | (rw [List.drop_length]; rfl) | (simp; done) | (congr 2; omega) | (congr 3; omega)) ?_)) (by repeat (first | exact Sub.nil _ | refine Sub.cons (by first | rfl | (rw [dgs_zero]; rfl) | (rw [List.drop_length]; rfl) | (simp; done) | (congr 2; omega) | (congr 3; omega)) ?_))
  · obtain rfl : i = 4 := by omega
    obtain rfl : ys = wl (x0 ^^^ x1) := wl_of hl _ hy
    refine T.exit ?_
    refine X.then_exit (X.then_exit (X.inBlock_eq (X.then ?_)))
    refine T.seq ?_
    refine T.text [.l, .l] rfl ?_
    refine J.loadN (k := .l) trivial 2 rfl rfl agg24 (wc (x0 ^^^ x1)) rfl rfl rfl ?_
    refine J.store 4 rfl rfl rfl rfl (wc (x0 ^^^ x1)) rfl sz24 (by first | decide | exact Nat.le_refl _ | exact Nat.le_of_ble_eq_true rfl | (simp [rowN]; done) | (simp [rowN]; omega)) (by first | exact rowN_one _ _ | (simp; done) | (intro u hu; simp at hu; subst hu; rfl) | (intro u hu; simp at hu; rcases hu with rfl | rfl <;> rfl)) (by first | decide | exact Nat.zero_lt_succ _ | simp) trivial (wc (x0 ^^^ x1)) rfl ?_
    refine J.end ?_
    refine X.then ?_
    refine T.ret ?_
    exact X.ret1 rfl (RV.agg 4 rfl rfl agg24 (wc (x0 ^^^ x1)) (by rfl) (by rfl) rfl) (fun w' hw' => ⟨rfl, hw'.sub (Sub.nil _)⟩)

theorem Not (w : World) (x0 : Nat) :
    Calls Tryd.prog 61 [W x0].toArray w fun e w' => e = .returned (W (notN x0)) ∧ WS w [] [] w' := by
  refine calls_of_T [] 15 [] Tryd.func61 rfl Tryd.ntmps61 (by simp) (WS.refl _ _) ?_
  refine T.seq ?_
  refine T.text [.l, .l] rfl ?_
  refine J.box 1 rfl rfl (wc x0) rfl rfl (fun g1 hg1 => ?_)
  refine J.alloc 2 rfl zero24 [.int .u64 0, .int .u64 0, .int .u64 0, .int .u64 0] rfl rfl (fun g2 hg2 => ?_)
  refine J.end ?_
  refine X.then ?_
  refine T.seq ?_
  refine T.seq ?_
  refine T.text [.l] rfl ?_
  refine J.move rfl rfl ?_
  refine J.end ?_
  refine X.then ?_
  refine T.block ?_
  refine T.loop (ι := Nat × List Nat) (fun ((i, ys) : Nat × List Nat) => i ≤ 4 ∧ ys.length = 4 ∧ (∀ q, q < i → ys.getD q 0 = lim (notN x0) q) ∧ ∀ q, i ≤ q → q < 4 → ys.getD q 0 = lim x0 q) (fun ((i, ys) : Nat × List Nat) => [(0, W x0), (1, .pointer (some ⟨g1, 0, none⟩)), (2, .pointer (some ⟨g2, 0, none⟩)), (4, .int .i64 (i : Int))]) (fun ((i, ys) : Nat × List Nat) => [(2, ⟨some g2, 24, [.int .u64 0, .int .u64 0, .int .u64 0, .int .u64 0]⟩), (1, ⟨some g1, 24, rowN .u64 ys⟩)]) (fun ((i, ys) : Nat × List Nat) => 4 - i) ⟨0, (wl x0)⟩ ⟨Nat.zero_le _, rfl, fun q hq => by omega, fun q _ hq => wl_get x0 q hq⟩ (by repeat (first | exact Sub.nil _ | refine Sub.cons (by first | rfl | (rw [dgs_zero]; rfl) | (rw [List.drop_length]; rfl) | (simp; done) | (congr 2; omega) | (congr 3; omega)) ?_)) (by repeat (first | exact Sub.nil _ | refine Sub.cons (by first | rfl | (rw [dgs_zero]; rfl) | (rw [List.drop_length]; rfl) | (simp; done) | (congr 2; omega) | (congr 3; omega)) ?_)) ?_
  rintro ⟨i, ys⟩ ⟨hi, hl, hy, hz⟩
  try dsimp only at *
  refine T.seq ?_
  refine T.text [.l] rfl ?_
  refine J.lss rfl rfl rfl rfl ?_
  refine J.end ?_
  refine X.then ?_
  refine T.seq ?_
  refine T.cond_dec rfl (fun h1 => ?_) (fun h1 => ?_)
  · have hi4 : i < 4 := by omega
    have hyi := hz i (Nat.le_refl _) hi4
    have hll := lim_lt x0 i
    have hzl := lim_not x0 i hi4
    refine T.skip ?_
    refine X.then ?_
    refine T.seq ?_
    refine T.block ?_
    refine T.seq ?_
    refine T.text [.l, .l] rfl ?_
    refine J.move rfl rfl ?_
    refine J.assign rfl rfl ?_
    refine J.end ?_
    refine X.then ?_
    refine T.text [.l, .l, .l, .l, .l, .l, .l] rfl ?_
    refine J.move rfl rfl ?_
    refine J.move rfl rfl ?_
    refine J.indexArr arr24 rfl rfl (by omega) (by omega) (by first | exact Int.toNat_natCast _ | rfl) rfl ?_
    refine J.load1 (k := .l) trivial 1 rfl rfl one22 (by exact rowN_get0 _ _ _ (by omega)) rfl ?_
    refine J.as 10 (.int .u64 ((lim x0 i : Nat) : Int)) rfl (by rw [hyi]) ?_
    refine J.compl rfl rfl (by exact compl64_nat _ hll) ?_
    refine J.as 11 (.int .u64 ((lim (notN x0) i : Nat) : Int)) rfl (by rw [hzl]) ?_
    refine J.indexArr arr24 rfl rfl (by omega) (by omega) (by first | exact Int.toNat_natCast _ | rfl) rfl ?_
    refine J.store 1 rfl rfl rfl rfl [.int .u64 ((lim (notN x0) i : Nat) : Int)] rfl sz22 (by rw [rowN_length, hl]; show _ + 1 ≤ 4; omega) (by first | exact rowN_one _ _ | (simp; done) | (intro u hu; simp at hu; subst hu; rfl) | (intro u hu; simp at hu; rcases hu with rfl | rfl <;> rfl)) (by first | decide | exact Nat.zero_lt_succ _ | simp) trivial (rowN .u64 (ys.set i (lim (notN x0) i))) (by rw [Nat.zero_add, Nat.mul_one]; exact putN' _ _ _ _ (by omega)) ?_
    refine J.end ?_
    refine X.inBlock (X.then ?_)
    refine T.text [.l, .l] rfl ?_
    refine J.add rfl rfl rfl (by first | exact add_nat _ 1 (by omega) | exact i64_ok _ (by omega) | exact rfl) ?_
    refine J.move rfl rfl ?_
    refine J.end ?_
    exact X.round ⟨(i + 1), (ys.set i (lim (notN x0) i))⟩ ⟨by omega, by simp [hl], set_low hl hi4 hy rfl, set_high hl hi4 hz⟩ (by first | omega | (dsimp only; omega)) (by repeat (first | exact Sub.nil _ | refine Sub.cons (by first | rfl | (rw [dgs_zero]; rfl) | (rw [List.drop_length]; rfl) | (simp; done) | (congr 2; omega) | (congr 3; omega)) ?_)) (by repeat (first | exact Sub.nil _ | refine Sub.cons (by first | rfl | (rw [dgs_zero]; rfl) | (rw [List.drop_length]; rfl) | (simp; done) | (congr 2; omega) | (congr 3; omega)) ?_))
  · obtain rfl : i = 4 := by omega
    obtain rfl : ys = wl (notN x0) := wl_of hl _ hy
    refine T.exit ?_
    refine X.then_exit (X.then_exit (X.inBlock_eq (X.then ?_)))
    refine T.seq ?_
    refine T.text [.l, .l] rfl ?_
    refine J.loadN (k := .l) trivial 1 rfl rfl agg24 (wc (notN x0)) rfl rfl rfl ?_
    refine J.store 2 rfl rfl rfl rfl (wc (notN x0)) rfl sz24 (by first | decide | exact Nat.le_refl _ | exact Nat.le_of_ble_eq_true rfl | (simp [rowN]; done) | (simp [rowN]; omega)) (by first | exact rowN_one _ _ | (simp; done) | (intro u hu; simp at hu; subst hu; rfl) | (intro u hu; simp at hu; rcases hu with rfl | rfl <;> rfl)) (by first | decide | exact Nat.zero_lt_succ _ | simp) trivial (wc (notN x0)) rfl ?_
    refine J.end ?_
    refine X.then ?_
    refine T.ret ?_
    exact X.ret1 rfl (RV.agg 2 rfl rfl agg24 (wc (notN x0)) (by rfl) (by rfl) rfl) (fun w' hw' => ⟨rfl, hw'.sub (Sub.nil _)⟩)

theorem below (w : World) (x0 : Nat) :
    Calls Tryd.prog 122 [W x0].toArray w fun e w' => e = .returned (.bool (decide (sgn x0))) ∧ WS w [] [] w' := by
  refine calls_of_T [] 7 [] Tryd.func122 rfl Tryd.ntmps122 (by simp) (WS.refl _ _) ?_
  refine T.seq ?_
  refine T.text [.l, .l] rfl ?_
  refine J.box 1 rfl rfl (wc x0) rfl rfl (fun g1 hg1 => ?_)
  refine J.assign rfl rfl ?_
  refine J.end ?_
  refine X.then ?_
  refine T.seq ?_
  refine T.text [.l, .l, .l, .l, .l] rfl ?_
  refine J.indexArr arr24 rfl rfl (by omega) (by omega) (by rfl) rfl ?_
  refine J.load1 (k := .l) trivial 1 rfl rfl one22 (by exact wc_at _ 3 (by omega)) rfl ?_
  have hl4 := lim_lt x0 3
  refine J.shr rfl rfl rfl (by decide) (by exact shr63_nat _) ?_
  refine J.eql rfl rfl rfl rfl ?_
  refine J.assign rfl rfl ?_
  refine J.end ?_
  refine X.then ?_
  refine T.ret ?_
  exact X.ret1 rfl (RV.tmp rfl) (fun w' hw' => ⟨by congr 2; exact decide_eq_decide.2 (by rw [sgn_lim]; omega), hw'.sub (Sub.nil _)⟩)

theorem negated (w : World) (x0 : Nat) :
    Calls Tryd.prog 123 [W x0].toArray w fun e w' => e = .returned (W (negN x0)) ∧ WS w [] [] w' := by
  refine calls_of_T [] 6 [] Tryd.func123 rfl Tryd.ntmps123 (by simp) (WS.refl _ _) ?_
  refine T.seq ?_
  refine T.text [.l, .l] rfl ?_
  refine J.box 1 rfl rfl (wc x0) rfl rfl (fun g1 hg1 => ?_)
  refine J.alloc 2 rfl zero24 [.int .u64 0, .int .u64 0, .int .u64 0, .int .u64 0] rfl rfl (fun g2 hg2 => ?_)
  refine J.end ?_
  refine X.then ?_
  refine T.seq ?_
  refine T.text [.l, .l, .l, .l] rfl ?_
  refine J.build rfl rfl (W 0) (fun w => by kernel_rfl) ?_
  refine J.loadN (k := .l) trivial 1 rfl rfl agg24 (wc x0) rfl rfl rfl ?_
  refine J.call0 (k := .l) trivial fok25 rfl rfl (fun w hw => Wb.Sub w _ _) ?_
  refine J.store 2 rfl rfl rfl rfl (wc (dif 0 x0)) rfl sz24 (by first | decide | exact Nat.le_refl _ | exact Nat.le_of_ble_eq_true rfl | (simp [rowN]; done) | (simp [rowN]; omega)) (by first | exact rowN_one _ _ | (simp; done) | (intro u hu; simp at hu; subst hu; rfl) | (intro u hu; simp at hu; rcases hu with rfl | rfl <;> rfl)) (by first | decide | exact Nat.zero_lt_succ _ | simp) trivial (wc (dif 0 x0)) rfl ?_
  refine J.end ?_
  refine X.then ?_
  refine T.ret ?_
  exact X.ret1 rfl (RV.agg 2 rfl rfl agg24 (wc (dif 0 x0)) (by rfl) (by rfl) rfl) (fun w' hw' => ⟨rfl, hw'.sub (Sub.nil _)⟩)

theorem unsigned (w : World) (x0 : Nat) :
    Calls Tryd.prog 121 [W x0].toArray w fun e w' => e = .returned (W (absN x0)) ∧ WS w [] [] w' := by
  refine calls_of_T [] 8 [] Tryd.func121 rfl Tryd.ntmps121 (by simp) (WS.refl _ _) ?_
  refine T.seq ?_
  refine T.text [.l, .l] rfl ?_
  refine J.box 1 rfl rfl (wc x0) rfl rfl (fun g1 hg1 => ?_)
  refine J.alloc 2 rfl zero24 [.int .u64 0, .int .u64 0, .int .u64 0, .int .u64 0] rfl rfl (fun g2 hg2 => ?_)
  refine J.end ?_
  refine X.then ?_
  refine T.seq ?_
  refine T.seq ?_
  refine T.text [.l, .l] rfl ?_
  refine J.loadN (k := .l) trivial 1 rfl rfl agg24 (wc x0) rfl rfl rfl ?_
  refine J.call0 (k := .l) trivial fok122 rfl rfl (fun w hw => We.below w _) ?_
  refine J.end ?_
  refine X.then ?_
  refine T.cond_dec rfl (fun h1 => ?_) (fun h1 => ?_)
  · skip
    refine T.seq ?_
    refine T.text [.l, .l, .l] rfl ?_
    refine J.loadN (k := .l) trivial 1 rfl rfl agg24 (wc x0) rfl rfl rfl ?_
    refine J.call0 (k := .l) trivial fok123 rfl rfl (fun w hw => We.negated w _) ?_
    refine J.store 2 rfl rfl rfl rfl (wc (negN x0)) rfl sz24 (by first | decide | exact Nat.le_refl _ | exact Nat.le_of_ble_eq_true rfl | (simp [rowN]; done) | (simp [rowN]; omega)) (by first | exact rowN_one _ _ | (simp; done) | (intro u hu; simp at hu; subst hu; rfl) | (intro u hu; simp at hu; rcases hu with rfl | rfl <;> rfl)) (by first | decide | exact Nat.zero_lt_succ _ | simp) trivial (wc (negN x0)) rfl ?_
    refine J.end ?_
    refine X.then ?_
    refine T.ret ?_
    refine X.then_ret ?_
    exact X.ret1 rfl (RV.agg 2 rfl rfl agg24 (wc (negN x0)) (by rfl) (by rfl) rfl) (fun w' hw' => ⟨retW (by unfold absN; split <;> first | contradiction | (rw [negN_mod]; unfold sgn at *; split <;> omega) | omega), hw'.sub (Sub.nil _)⟩)
  · skip
    refine T.skip ?_
    refine X.then ?_
    refine T.seq ?_
    refine T.text [.l, .l] rfl ?_
    refine J.loadN (k := .l) trivial 1 rfl rfl agg24 (wc x0) rfl rfl rfl ?_
    refine J.store 2 rfl rfl rfl rfl (wc x0) rfl sz24 (by first | decide | exact Nat.le_refl _ | exact Nat.le_of_ble_eq_true rfl | (simp [rowN]; done) | (simp [rowN]; omega)) (by first | exact rowN_one _ _ | (simp; done) | (intro u hu; simp at hu; subst hu; rfl) | (intro u hu; simp at hu; rcases hu with rfl | rfl <;> rfl)) (by first | decide | exact Nat.zero_lt_succ _ | simp) trivial (wc x0) rfl ?_
    refine J.end ?_
    refine X.then ?_
    refine T.ret ?_
    exact X.ret1 rfl (RV.agg 2 rfl rfl agg24 (wc x0) (by rfl) (by rfl) rfl) (fun w' hw' => ⟨retW (by unfold absN; split <;> first | contradiction | (rw [negN_mod]; unfold sgn at *; split <;> omega) | omega), hw'.sub (Sub.nil _)⟩)

theorem Div (w : World) (x0 : Nat) (x1 : Nat) :
    Calls Tryd.prog 29 [W x0, W x1].toArray w fun e w' => e = .returned (W (divN x0 x1)) ∧ WS w [] [] w' := by
  refine calls_of_T [] 18 [] Tryd.func29 rfl Tryd.ntmps29 (by simp) (WS.refl _ _) ?_
  refine T.seq ?_
  refine T.text [.l, .l, .l] rfl ?_
  refine J.box 2 rfl rfl (wc x0) rfl rfl (fun g2 hg2 => ?_)
  refine J.box 3 rfl rfl (wc x1) rfl rfl (fun g3 hg3 => ?_)
  refine J.alloc 4 rfl zero24 [.int .u64 0, .int .u64 0, .int .u64 0, .int .u64 0] rfl rfl (fun g4 hg4 => ?_)
  refine J.end ?_
  refine X.then ?_
  refine T.seq ?_
  refine T.seq ?_
  refine T.text [.l, .l] rfl ?_
  refine J.loadN (k := .l) trivial 3 rfl rfl agg24 (wc x1) rfl rfl rfl ?_
  refine J.call0 (k := .l) trivial fok81 rfl rfl (fun w hw => Wa.IsZero w _) ?_
  refine J.end ?_
  refine X.then ?_
  refine T.cond_dec rfl (fun h1 => ?_) (fun h1 => ?_)
  · skip
    refine T.seq ?_
    refine T.text [.l, .l] rfl ?_
    refine J.loadN (k := .l) trivial 3 rfl rfl agg24 (wc x1) rfl rfl rfl ?_
    refine J.store 4 rfl rfl rfl rfl (wc x1) rfl sz24 (by first | decide | exact Nat.le_refl _ | exact Nat.le_of_ble_eq_true rfl | (simp [rowN]; done) | (simp [rowN]; omega)) (by first | exact rowN_one _ _ | (simp; done) | (intro u hu; simp at hu; subst hu; rfl) | (intro u hu; simp at hu; rcases hu with rfl | rfl <;> rfl)) (by first | decide | exact Nat.zero_lt_succ _ | simp) trivial (wc x1) rfl ?_
    refine J.end ?_
    refine X.then ?_
    refine T.ret ?_
    refine X.then_ret ?_
    exact X.ret1 rfl (RV.agg 4 rfl rfl agg24 (wc x1) (by rfl) (by rfl) rfl) (fun w' hw' => ⟨retW (by unfold divN; rw [if_pos (by assumption)]; omega), hw'.sub (Sub.nil _)⟩)
  · skip
    refine T.skip ?_
    refine X.then ?_
    refine T.seq ?_
    refine T.draw [] [(0, .q), (1, .q), (2, .q), (3, .q), (4, .g), (5, .g), (6, .g), (7, .a 5), (8, .a 6), (9, .l), (10, .l)] (by kernel_rfl) (by kernel_rfl) ?_ (by repeat (first | exact Sub.nil _ | refine Sub.cons (by first | rfl | (rw [dgs_zero]; rfl) | (rw [List.drop_length]; rfl) | (simp; done) | (congr 2; omega) | (congr 3; omega)) ?_))
    refine J.loadN (k := .q) trivial 2 rfl rfl agg24 (wc x0) rfl rfl rfl ?_
    refine J.call0 (k := .q) trivial fok117 rfl rfl (fun w hw => Wb.wide w _ 0 (by omega)) ?_
    refine J.loadN (k := .q) trivial 3 rfl rfl agg24 (wc x1) rfl rfl rfl ?_
    refine J.call0 (k := .q) trivial fok116 rfl rfl (fun w hw => Wd.divide w _ _ (by omega) (by omega)) ?_
    refine J.move rfl rfl ?_
    refine J.extract rfl rfl rfl ?_
    refine J.extract rfl rfl rfl ?_
    refine J.allocA 5 rfl rfl zero24 [.int .u64 0, .int .u64 0, .int .u64 0, .int .u64 0] rfl rfl (fun g5 hg5 => ?_)
    refine J.allocA 6 rfl rfl zero24 [.int .u64 0, .int .u64 0, .int .u64 0, .int .u64 0] rfl rfl (fun g6 hg6 => ?_)
    refine J.store 5 rfl rfl rfl rfl (wc (((x0 % 2 ^ 256 + 0 * 2 ^ 256)) / (x1 % 2 ^ 256))) rfl sz24 (by first | decide | exact Nat.le_refl _ | exact Nat.le_of_ble_eq_true rfl | (simp [rowN]; done) | (simp [rowN]; omega)) (by first | exact rowN_one _ _ | (simp; done) | (intro u hu; simp at hu; subst hu; rfl) | (intro u hu; simp at hu; rcases hu with rfl | rfl <;> rfl)) (by first | decide | exact Nat.zero_lt_succ _ | simp) trivial (wc (((x0 % 2 ^ 256 + 0 * 2 ^ 256)) / (x1 % 2 ^ 256))) rfl ?_
    refine J.store 6 rfl rfl rfl rfl (wc (((x0 % 2 ^ 256 + 0 * 2 ^ 256)) % (x1 % 2 ^ 256))) rfl sz24 (by first | decide | exact Nat.le_refl _ | exact Nat.le_of_ble_eq_true rfl | (simp [rowN]; done) | (simp [rowN]; omega)) (by first | exact rowN_one _ _ | (simp; done) | (intro u hu; simp at hu; subst hu; rfl) | (intro u hu; simp at hu; rcases hu with rfl | rfl <;> rfl)) (by first | decide | exact Nat.zero_lt_succ _ | simp) trivial (wc (((x0 % 2 ^ 256 + 0 * 2 ^ 256)) % (x1 % 2 ^ 256))) rfl ?_
    refine J.end ?_
    refine X.then ?_
    refine T.seq ?_
    refine T.text [.l, .l] rfl ?_
    refine J.loadN (k := .l) trivial 5 rfl rfl agg24 (wc (((x0 % 2 ^ 256 + 0 * 2 ^ 256)) / (x1 % 2 ^ 256))) rfl rfl rfl ?_
    refine J.store 4 rfl rfl rfl rfl (wc (((x0 % 2 ^ 256 + 0 * 2 ^ 256)) / (x1 % 2 ^ 256))) rfl sz24 (by first | decide | exact Nat.le_refl _ | exact Nat.le_of_ble_eq_true rfl | (simp [rowN]; done) | (simp [rowN]; omega)) (by first | exact rowN_one _ _ | (simp; done) | (intro u hu; simp at hu; subst hu; rfl) | (intro u hu; simp at hu; rcases hu with rfl | rfl <;> rfl)) (by first | decide | exact Nat.zero_lt_succ _ | simp) trivial (wc (((x0 % 2 ^ 256 + 0 * 2 ^ 256)) / (x1 % 2 ^ 256))) rfl ?_
    refine J.end ?_
    refine X.then ?_
    refine T.ret ?_
    exact X.ret1 rfl (RV.agg 4 rfl rfl agg24 (wc (((x0 % 2 ^ 256 + 0 * 2 ^ 256)) / (x1 % 2 ^ 256))) (by rfl) (by rfl) rfl) (fun w' hw' => ⟨retW (by unfold divN; rw [if_neg (by assumption), Nat.zero_mul, Nat.add_zero]), hw'.sub (Sub.nil _)⟩)

theorem Mod (w : World) (x0 : Nat) (x1 : Nat) :
    Calls Tryd.prog 31 [W x0, W x1].toArray w fun e w' => e = .returned (W (modN x0 x1)) ∧ WS w [] [] w' := by
  refine calls_of_T [] 18 [] Tryd.func31 rfl Tryd.ntmps31 (by simp) (WS.refl _ _) ?_
  refine T.seq ?_
  refine T.text [.l, .l, .l] rfl ?_
  refine J.box 2 rfl rfl (wc x0) rfl rfl (fun g2 hg2 => ?_)
  refine J.box 3 rfl rfl (wc x1) rfl rfl (fun g3 hg3 => ?_)
  refine J.alloc 4 rfl zero24 [.int .u64 0, .int .u64 0, .int .u64 0, .int .u64 0] rfl rfl (fun g4 hg4 => ?_)
  refine J.end ?_
  refine X.then ?_
  refine T.seq ?_
  refine T.seq ?_
  refine T.text [.l, .l] rfl ?_
  refine J.loadN (k := .l) trivial 3 rfl rfl agg24 (wc x1) rfl rfl rfl ?_
  refine J.call0 (k := .l) trivial fok81 rfl rfl (fun w hw => Wa.IsZero w _) ?_
  refine J.end ?_
  refine X.then ?_
  refine T.cond_dec rfl (fun h1 => ?_) (fun h1 => ?_)
  · skip
    refine T.seq ?_
    refine T.text [.l, .l] rfl ?_
    refine J.loadN (k := .l) trivial 3 rfl rfl agg24 (wc x1) rfl rfl rfl ?_
    refine J.store 4 rfl rfl rfl rfl (wc x1) rfl sz24 (by first | decide | exact Nat.le_refl _ | exact Nat.le_of_ble_eq_true rfl | (simp [rowN]; done) | (simp [rowN]; omega)) (by first | exact rowN_one _ _ | (simp; done) | (intro u hu; simp at hu; subst hu; rfl) | (intro u hu; simp at hu; rcases hu with rfl | rfl <;> rfl)) (by first | decide | exact Nat.zero_lt_succ _ | simp) trivial (wc x1) rfl ?_
    refine J.end ?_
    refine X.then ?_
    refine T.ret ?_
    refine X.then_ret ?_
    exact X.ret1 rfl (RV.agg 4 rfl rfl agg24 (wc x1) (by rfl) (by rfl) rfl) (fun w' hw' => ⟨retW (by unfold modN; rw [if_pos (by assumption)]; omega), hw'.sub (Sub.nil _)⟩)
  · skip
    refine T.skip ?_
    refine X.then ?_
    refine T.seq ?_
    refine T.draw [] [(0, .q), (1, .q), (2, .q), (3, .q), (4, .g), (5, .g), (6, .g), (7, .a 5), (8, .a 6), (9, .l), (10, .l)] (by kernel_rfl) (by kernel_rfl) ?_ (by repeat (first | exact Sub.nil _ | refine Sub.cons (by first | rfl | (rw [dgs_zero]; rfl) | (rw [List.drop_length]; rfl) | (simp; done) | (congr 2; omega) | (congr 3; omega)) ?_))
    refine J.loadN (k := .q) trivial 2 rfl rfl agg24 (wc x0) rfl rfl rfl ?_
    refine J.call0 (k := .q) trivial fok117 rfl rfl (fun w hw => Wb.wide w _ 0 (by omega)) ?_
    refine J.loadN (k := .q) trivial 3 rfl rfl agg24 (wc x1) rfl rfl rfl ?_
    refine J.call0 (k := .q) trivial fok116 rfl rfl (fun w hw => Wd.divide w _ _ (by omega) (by omega)) ?_
    refine J.move rfl rfl ?_
    refine J.extract rfl rfl rfl ?_
    refine J.extract rfl rfl rfl ?_
    refine J.allocA 5 rfl rfl zero24 [.int .u64 0, .int .u64 0, .int .u64 0, .int .u64 0] rfl rfl (fun g5 hg5 => ?_)
    refine J.allocA 6 rfl rfl zero24 [.int .u64 0, .int .u64 0, .int .u64 0, .int .u64 0] rfl rfl (fun g6 hg6 => ?_)
    refine J.store 5 rfl rfl rfl rfl (wc (((x0 % 2 ^ 256 + 0 * 2 ^ 256)) / (x1 % 2 ^ 256))) rfl sz24 (by first | decide | exact Nat.le_refl _ | exact Nat.le_of_ble_eq_true rfl | (simp [rowN]; done) | (simp [rowN]; omega)) (by first | exact rowN_one _ _ | (simp; done) | (intro u hu; simp at hu; subst hu; rfl) | (intro u hu; simp at hu; rcases hu with rfl | rfl <;> rfl)) (by first | decide | exact Nat.zero_lt_succ _ | simp) trivial (wc (((x0 % 2 ^ 256 + 0 * 2 ^ 256)) / (x1 % 2 ^ 256))) rfl ?_
    refine J.store 6 rfl rfl rfl rfl (wc (((x0 % 2 ^ 256 + 0 * 2 ^ 256)) % (x1 % 2 ^ 256))) rfl sz24 (by first | decide | exact Nat.le_refl _ | exact Nat.le_of_ble_eq_true rfl | (simp [rowN]; done) | (simp [rowN]; omega)) (by first | exact rowN_one _ _ | (simp; done) | (intro u hu; simp at hu; subst hu; rfl) | (intro u hu; simp at hu; rcases hu with rfl | rfl <;> rfl)) (by first | decide | exact Nat.zero_lt_succ _ | simp) trivial (wc (((x0 % 2 ^ 256 + 0 * 2 ^ 256)) % (x1 % 2 ^ 256))) rfl ?_
    refine J.end ?_
    refine X.then ?_
    refine T.seq ?_
    refine T.text [.l, .l] rfl ?_
    refine J.loadN (k := .l) trivial 6 rfl rfl agg24 (wc (((x0 % 2 ^ 256 + 0 * 2 ^ 256)) % (x1 % 2 ^ 256))) rfl rfl rfl ?_
    refine J.store 4 rfl rfl rfl rfl (wc (((x0 % 2 ^ 256 + 0 * 2 ^ 256)) % (x1 % 2 ^ 256))) rfl sz24 (by first | decide | exact Nat.le_refl _ | exact Nat.le_of_ble_eq_true rfl | (simp [rowN]; done) | (simp [rowN]; omega)) (by first | exact rowN_one _ _ | (simp; done) | (intro u hu; simp at hu; subst hu; rfl) | (intro u hu; simp at hu; rcases hu with rfl | rfl <;> rfl)) (by first | decide | exact Nat.zero_lt_succ _ | simp) trivial (wc (((x0 % 2 ^ 256 + 0 * 2 ^ 256)) % (x1 % 2 ^ 256))) rfl ?_
    refine J.end ?_
    refine X.then ?_
    refine T.ret ?_
    exact X.ret1 rfl (RV.agg 4 rfl rfl agg24 (wc (((x0 % 2 ^ 256 + 0 * 2 ^ 256)) % (x1 % 2 ^ 256))) (by rfl) (by rfl) rfl) (fun w' hw' => ⟨retW (by unfold modN; rw [if_neg (by assumption), Nat.zero_mul, Nat.add_zero]), hw'.sub (Sub.nil _)⟩)

theorem AddMod (w : World) (x0 : Nat) (x1 : Nat) (x2 : Nat) :
    Calls Tryd.prog 46 [W x0, W x1, W x2].toArray w fun e w' => e = .returned (W (addmN x0 x1 x2)) ∧ WS w [] [] w' := by
  have hcl : (x0 % 2 ^ 256 + x1 % 2 ^ 256) / 2 ^ 256 ≤ 1 := by omega
  refine calls_of_T [] 29 [] Tryd.func46 rfl Tryd.ntmps46 (by simp) (WS.refl _ _) ?_
  refine T.seq ?_
  refine T.text [.l, .l, .l, .l] rfl ?_
  refine J.box 3 rfl rfl (wc x0) rfl rfl (fun g3 hg3 => ?_)
  refine J.box 4 rfl rfl (wc x1) rfl rfl (fun g4 hg4 => ?_)
  refine J.box 5 rfl rfl (wc x2) rfl rfl (fun g5 hg5 => ?_)
  refine J.alloc 6 rfl zero24 [.int .u64 0, .int .u64 0, .int .u64 0, .int .u64 0] rfl rfl (fun g6 hg6 => ?_)
  refine J.end ?_
  refine X.then ?_
  refine T.seq ?_
  refine T.seq ?_
  refine T.text [.l, .l] rfl ?_
  refine J.loadN (k := .l) trivial 5 rfl rfl agg24 (wc x2) rfl rfl rfl ?_
  refine J.call0 (k := .l) trivial fok81 rfl rfl (fun w hw => Wa.IsZero w _) ?_
  refine J.end ?_
  refine X.then ?_
  refine T.cond_dec rfl (fun h1 => ?_) (fun h1 => ?_)
  · skip
    refine T.seq ?_
    refine T.text [.l, .l] rfl ?_
    refine J.loadN (k := .l) trivial 5 rfl rfl agg24 (wc x2) rfl rfl rfl ?_
    refine J.store 6 rfl rfl rfl rfl (wc x2) rfl sz24 (by first | decide | exact Nat.le_refl _ | exact Nat.le_of_ble_eq_true rfl | (simp [rowN]; done) | (simp [rowN]; omega)) (by first | exact rowN_one _ _ | (simp; done) | (intro u hu; simp at hu; subst hu; rfl) | (intro u hu; simp at hu; rcases hu with rfl | rfl <;> rfl)) (by first | decide | exact Nat.zero_lt_succ _ | simp) trivial (wc x2) rfl ?_
    refine J.end ?_
    refine X.then ?_
    refine T.ret ?_
    refine X.then_ret ?_
    exact X.ret1 rfl (RV.agg 6 rfl rfl agg24 (wc x2) (by rfl) (by rfl) rfl) (fun w' hw' => ⟨retW (by unfold addmN; rw [if_pos (by assumption)]; omega), hw'.sub (Sub.nil _)⟩)
  · skip
    refine T.skip ?_
    refine X.then ?_
    refine T.seq ?_
    refine T.text [.l, .l, .l, .l, .l, .l, .l, .l, .l] rfl ?_
    refine J.loadN (k := .l) trivial 3 rfl rfl agg24 (wc x0) rfl rfl rfl ?_
    refine J.loadN (k := .l) trivial 4 rfl rfl agg24 (wc x1) rfl rfl rfl ?_
    refine J.call0 (k := .l) trivial fok107 rfl rfl (fun w hw => Wa.plus w _ _) ?_
    refine J.move rfl rfl ?_
    refine J.extract rfl rfl rfl ?_
    refine J.extract rfl rfl rfl ?_
    refine J.alloc 7 rfl zero24 [.int .u64 0, .int .u64 0, .int .u64 0, .int .u64 0] rfl rfl (fun g7 hg7 => ?_)
    refine J.store 7 rfl rfl rfl rfl (wc (x0 + x1)) rfl sz24 (by first | decide | exact Nat.le_refl _ | exact Nat.le_of_ble_eq_true rfl | (simp [rowN]; done) | (simp [rowN]; omega)) (by first | exact rowN_one _ _ | (simp; done) | (intro u hu; simp at hu; subst hu; rfl) | (intro u hu; simp at hu; rcases hu with rfl | rfl <;> rfl)) (by first | decide | exact Nat.zero_lt_succ _ | simp) trivial (wc (x0 + x1)) rfl ?_
    refine J.assign rfl rfl ?_
    refine J.end ?_
    refine X.then ?_
    refine T.seq ?_
    refine T.draw [] [(0, .q), (1, .g), (2, .q), (3, .q), (4, .q), (5, .g), (6, .g), (7, .g), (8, .a 9), (9, .a 10), (10, .l), (11, .l)] (by kernel_rfl) (by kernel_rfl) ?_ (by repeat (first | exact Sub.nil _ | refine Sub.cons (by first | rfl | (rw [dgs_zero]; rfl) | (rw [List.drop_length]; rfl) | (simp; done) | (congr 2; omega) | (congr 3; omega)) ?_))
    refine J.loadN (k := .q) trivial 7 rfl rfl agg24 (wc (x0 + x1)) rfl rfl rfl ?_
    refine J.move rfl rfl ?_
    refine J.call0 (k := .q) trivial fok117 rfl rfl (fun w hw => Wb.wide w _ _ (by omega)) ?_
    refine J.loadN (k := .q) trivial 5 rfl rfl agg24 (wc x2) rfl rfl rfl ?_
    refine J.call0 (k := .q) trivial fok116 rfl rfl (fun w hw => Wd.divide w _ _ (by omega) (by omega)) ?_
    refine J.move rfl rfl ?_
    refine J.extract rfl rfl rfl ?_
    refine J.extract rfl rfl rfl ?_
    refine J.allocA 9 rfl rfl zero24 [.int .u64 0, .int .u64 0, .int .u64 0, .int .u64 0] rfl rfl (fun g9 hg9 => ?_)
    refine J.allocA 10 rfl rfl zero24 [.int .u64 0, .int .u64 0, .int .u64 0, .int .u64 0] rfl rfl (fun g10 hg10 => ?_)
    refine J.store 9 rfl rfl rfl rfl (wc (((((x0 + x1)) % 2 ^ 256 + ((x0 % 2 ^ 256 + x1 % 2 ^ 256) / 2 ^ 256) * 2 ^ 256)) / (x2 % 2 ^ 256))) rfl sz24 (by first | decide | exact Nat.le_refl _ | exact Nat.le_of_ble_eq_true rfl | (simp [rowN]; done) | (simp [rowN]; omega)) (by first | exact rowN_one _ _ | (simp; done) | (intro u hu; simp at hu; subst hu; rfl) | (intro u hu; simp at hu; rcases hu with rfl | rfl <;> rfl)) (by first | decide | exact Nat.zero_lt_succ _ | simp) trivial (wc (((((x0 + x1)) % 2 ^ 256 + ((x0 % 2 ^ 256 + x1 % 2 ^ 256) / 2 ^ 256) * 2 ^ 256)) / (x2 % 2 ^ 256))) rfl ?_
    refine J.store 10 rfl rfl rfl rfl (wc (((((x0 + x1)) % 2 ^ 256 + ((x0 % 2 ^ 256 + x1 % 2 ^ 256) / 2 ^ 256) * 2 ^ 256)) % (x2 % 2 ^ 256))) rfl sz24 (by first | decide | exact Nat.le_refl _ | exact Nat.le_of_ble_eq_true rfl | (simp [rowN]; done) | (simp [rowN]; omega)) (by first | exact rowN_one _ _ | (simp; done) | (intro u hu; simp at hu; subst hu; rfl) | (intro u hu; simp at hu; rcases hu with rfl | rfl <;> rfl)) (by first | decide | exact Nat.zero_lt_succ _ | simp) trivial (wc (((((x0 + x1)) % 2 ^ 256 + ((x0 % 2 ^ 256 + x1 % 2 ^ 256) / 2 ^ 256) * 2 ^ 256)) % (x2 % 2 ^ 256))) rfl ?_
    refine J.end ?_
    refine X.then ?_
    refine T.seq ?_
    refine T.text [.l, .l] rfl ?_
    refine J.loadN (k := .l) trivial 10 rfl rfl agg24 (wc (((((x0 + x1)) % 2 ^ 256 + ((x0 % 2 ^ 256 + x1 % 2 ^ 256) / 2 ^ 256) * 2 ^ 256)) % (x2 % 2 ^ 256))) rfl rfl rfl ?_
    refine J.store 6 rfl rfl rfl rfl (wc (((((x0 + x1)) % 2 ^ 256 + ((x0 % 2 ^ 256 + x1 % 2 ^ 256) / 2 ^ 256) * 2 ^ 256)) % (x2 % 2 ^ 256))) rfl sz24 (by first | decide | exact Nat.le_refl _ | exact Nat.le_of_ble_eq_true rfl | (simp [rowN]; done) | (simp [rowN]; omega)) (by first | exact rowN_one _ _ | (simp; done) | (intro u hu; simp at hu; subst hu; rfl) | (intro u hu; simp at hu; rcases hu with rfl | rfl <;> rfl)) (by first | decide | exact Nat.zero_lt_succ _ | simp) trivial (wc (((((x0 + x1)) % 2 ^ 256 + ((x0 % 2 ^ 256 + x1 % 2 ^ 256) / 2 ^ 256) * 2 ^ 256)) % (x2 % 2 ^ 256))) rfl ?_
    refine J.end ?_
    refine X.then ?_
    refine T.ret ?_
    exact X.ret1 rfl (RV.agg 6 rfl rfl agg24 (wc (((((x0 + x1)) % 2 ^ 256 + ((x0 % 2 ^ 256 + x1 % 2 ^ 256) / 2 ^ 256) * 2 ^ 256)) % (x2 % 2 ^ 256))) (by rfl) (by rfl) rfl) (fun w' hw' => ⟨retW (by unfold addmN; rw [if_neg (by assumption)]; congr 2; omega), hw'.sub (Sub.nil _)⟩)

theorem MulMod (w : World) (x0 : Nat) (x1 : Nat) (x2 : Nat) :
    Calls Tryd.prog 48 [W x0, W x1, W x2].toArray w fun e w' => e = .returned (W (mulmN x0 x1 x2)) ∧ WS w [] [] w' := by
  refine calls_of_T [] 21 [] Tryd.func48 rfl Tryd.ntmps48 (by simp) (WS.refl _ _) ?_
  refine T.seq ?_
  refine T.text [.l, .l, .l, .l] rfl ?_
  refine J.box 3 rfl rfl (wc x0) rfl rfl (fun g3 hg3 => ?_)
  refine J.box 4 rfl rfl (wc x1) rfl rfl (fun g4 hg4 => ?_)
  refine J.box 5 rfl rfl (wc x2) rfl rfl (fun g5 hg5 => ?_)
  refine J.alloc 6 rfl zero24 [.int .u64 0, .int .u64 0, .int .u64 0, .int .u64 0] rfl rfl (fun g6 hg6 => ?_)
  refine J.end ?_
  refine X.then ?_
  refine T.seq ?_
  refine T.seq ?_
  refine T.text [.l, .l] rfl ?_
  refine J.loadN (k := .l) trivial 5 rfl rfl agg24 (wc x2) rfl rfl rfl ?_
  refine J.call0 (k := .l) trivial fok81 rfl rfl (fun w hw => Wa.IsZero w _) ?_
  refine J.end ?_
  refine X.then ?_
  refine T.cond_dec rfl (fun h1 => ?_) (fun h1 => ?_)
  · skip
    refine T.seq ?_
    refine T.text [.l, .l] rfl ?_
    refine J.loadN (k := .l) trivial 5 rfl rfl agg24 (wc x2) rfl rfl rfl ?_
    refine J.store 6 rfl rfl rfl rfl (wc x2) rfl sz24 (by first | decide | exact Nat.le_refl _ | exact Nat.le_of_ble_eq_true rfl | (simp [rowN]; done) | (simp [rowN]; omega)) (by first | exact rowN_one _ _ | (simp; done) | (intro u hu; simp at hu; subst hu; rfl) | (intro u hu; simp at hu; rcases hu with rfl | rfl <;> rfl)) (by first | decide | exact Nat.zero_lt_succ _ | simp) trivial (wc x2) rfl ?_
    refine J.end ?_
    refine X.then ?_
    refine T.ret ?_
    refine X.then_ret ?_
    exact X.ret1 rfl (RV.agg 6 rfl rfl agg24 (wc x2) (by rfl) (by rfl) rfl) (fun w' hw' => ⟨retW (by unfold mulmN; rw [if_pos (by assumption)]; omega), hw'.sub (Sub.nil _)⟩)
  · skip
    refine T.skip ?_
    refine X.then ?_
    refine T.seq ?_
    refine T.draw [] [(0, .q), (1, .q), (2, .q), (3, .q), (4, .q), (5, .g), (6, .g), (7, .g), (8, .a 7), (9, .a 8), (10, .l), (11, .l)] (by kernel_rfl) (by kernel_rfl) ?_ (by repeat (first | exact Sub.nil _ | refine Sub.cons (by first | rfl | (rw [dgs_zero]; rfl) | (rw [List.drop_length]; rfl) | (simp; done) | (congr 2; omega) | (congr 3; omega)) ?_))
    refine J.loadN (k := .q) trivial 3 rfl rfl agg24 (wc x0) rfl rfl rfl ?_
    refine J.loadN (k := .q) trivial 4 rfl rfl agg24 (wc x1) rfl rfl rfl ?_
    refine J.call0 (k := .q) trivial fok114 rfl rfl (fun w hw => Wb.times w _ _) ?_
    refine J.loadN (k := .q) trivial 5 rfl rfl agg24 (wc x2) rfl rfl rfl ?_
    refine J.call0 (k := .q) trivial fok116 rfl rfl (fun w hw => Wd.divide w _ _ (mul_lt512 x0 x1) (by assumption)) ?_
    refine J.move rfl rfl ?_
    refine J.extract rfl rfl rfl ?_
    refine J.extract rfl rfl rfl ?_
    refine J.allocA 7 rfl rfl zero24 [.int .u64 0, .int .u64 0, .int .u64 0, .int .u64 0] rfl rfl (fun g7 hg7 => ?_)
    refine J.allocA 8 rfl rfl zero24 [.int .u64 0, .int .u64 0, .int .u64 0, .int .u64 0] rfl rfl (fun g8 hg8 => ?_)
    refine J.store 7 rfl rfl rfl rfl (wc (((x0 % 2 ^ 256 * (x1 % 2 ^ 256))) / (x2 % 2 ^ 256))) rfl sz24 (by first | decide | exact Nat.le_refl _ | exact Nat.le_of_ble_eq_true rfl | (simp [rowN]; done) | (simp [rowN]; omega)) (by first | exact rowN_one _ _ | (simp; done) | (intro u hu; simp at hu; subst hu; rfl) | (intro u hu; simp at hu; rcases hu with rfl | rfl <;> rfl)) (by first | decide | exact Nat.zero_lt_succ _ | simp) trivial (wc (((x0 % 2 ^ 256 * (x1 % 2 ^ 256))) / (x2 % 2 ^ 256))) rfl ?_
    refine J.store 8 rfl rfl rfl rfl (wc (((x0 % 2 ^ 256 * (x1 % 2 ^ 256))) % (x2 % 2 ^ 256))) rfl sz24 (by first | decide | exact Nat.le_refl _ | exact Nat.le_of_ble_eq_true rfl | (simp [rowN]; done) | (simp [rowN]; omega)) (by first | exact rowN_one _ _ | (simp; done) | (intro u hu; simp at hu; subst hu; rfl) | (intro u hu; simp at hu; rcases hu with rfl | rfl <;> rfl)) (by first | decide | exact Nat.zero_lt_succ _ | simp) trivial (wc (((x0 % 2 ^ 256 * (x1 % 2 ^ 256))) % (x2 % 2 ^ 256))) rfl ?_
    refine J.end ?_
    refine X.then ?_
    refine T.seq ?_
    refine T.text [.l, .l] rfl ?_
    refine J.loadN (k := .l) trivial 8 rfl rfl agg24 (wc (((x0 % 2 ^ 256 * (x1 % 2 ^ 256))) % (x2 % 2 ^ 256))) rfl rfl rfl ?_
    refine J.store 6 rfl rfl rfl rfl (wc (((x0 % 2 ^ 256 * (x1 % 2 ^ 256))) % (x2 % 2 ^ 256))) rfl sz24 (by first | decide | exact Nat.le_refl _ | exact Nat.le_of_ble_eq_true rfl | (simp [rowN]; done) | (simp [rowN]; omega)) (by first | exact rowN_one _ _ | (simp; done) | (intro u hu; simp at hu; subst hu; rfl) | (intro u hu; simp at hu; rcases hu with rfl | rfl <;> rfl)) (by first | decide | exact Nat.zero_lt_succ _ | simp) trivial (wc (((x0 % 2 ^ 256 * (x1 % 2 ^ 256))) % (x2 % 2 ^ 256))) rfl ?_
    refine J.end ?_
    refine X.then ?_
    refine T.ret ?_
    exact X.ret1 rfl (RV.agg 6 rfl rfl agg24 (wc (((x0 % 2 ^ 256 * (x1 % 2 ^ 256))) % (x2 % 2 ^ 256))) (by rfl) (by rfl) rfl) (fun w' hw' => ⟨retW (by unfold mulmN; rw [if_neg (by assumption)]), hw'.sub (Sub.nil _)⟩)

theorem SDiv (w : World) (x0 : Nat) (x1 : Nat) :
    Calls Tryd.prog 34 [W x0, W x1].toArray w fun e w' => e = .returned (W (sdivN x0 x1)) ∧ WS w [] [] w' := by
  refine calls_of_T [] 19 [] Tryd.func34 rfl Tryd.ntmps34 (by simp) (WS.refl _ _) ?_
  refine T.seq ?_
  refine T.text [.l, .l, .l] rfl ?_
  refine J.box 2 rfl rfl (wc x0) rfl rfl (fun g2 hg2 => ?_)
  refine J.box 3 rfl rfl (wc x1) rfl rfl (fun g3 hg3 => ?_)
  refine J.alloc 4 rfl zero24 [.int .u64 0, .int .u64 0, .int .u64 0, .int .u64 0] rfl rfl (fun g4 hg4 => ?_)
  refine J.end ?_
  refine X.then ?_
  refine T.seq ?_
  refine T.draw [] [(0, .q), (1, .q), (2, .q), (3, .q), (4, .q), (5, .a 5), (6, .l)] (by kernel_rfl) (by kernel_rfl) ?_ (by repeat (first | exact Sub.nil _ | refine Sub.cons (by first | rfl | (rw [dgs_zero]; rfl) | (rw [List.drop_length]; rfl) | (simp; done) | (congr 2; omega) | (congr 3; omega)) ?_))
  refine J.loadN (k := .q) trivial 2 rfl rfl agg24 (wc x0) rfl rfl rfl ?_
  refine J.call0 (k := .q) trivial fok121 rfl rfl (fun w hw => We.unsigned w _) ?_
  refine J.loadN (k := .q) trivial 3 rfl rfl agg24 (wc x1) rfl rfl rfl ?_
  refine J.call0 (k := .q) trivial fok121 rfl rfl (fun w hw => We.unsigned w _) ?_
  refine J.call0 (k := .q) trivial fok29 rfl rfl (fun w hw => We.Div w _ _) ?_
  refine J.allocA 5 rfl rfl zero24 [.int .u64 0, .int .u64 0, .int .u64 0, .int .u64 0] rfl rfl (fun g5 hg5 => ?_)
  refine J.store 5 rfl rfl rfl rfl (wc (divN ((absN x0)) ((absN x1)))) rfl sz24 (by first | decide | exact Nat.le_refl _ | exact Nat.le_of_ble_eq_true rfl | (simp [rowN]; done) | (simp [rowN]; omega)) (by first | exact rowN_one _ _ | (simp; done) | (intro u hu; simp at hu; subst hu; rfl) | (intro u hu; simp at hu; rcases hu with rfl | rfl <;> rfl)) (by first | decide | exact Nat.zero_lt_succ _ | simp) trivial (wc (divN ((absN x0)) ((absN x1)))) rfl ?_
  refine J.end ?_
  refine X.then ?_
  refine T.seq ?_
  refine T.seq ?_
  refine T.draw [] [(0, .q), (1, .q), (2, .q), (3, .q), (4, .g)] (by kernel_rfl) (by kernel_rfl) ?_ (by repeat (first | exact Sub.nil _ | refine Sub.cons (by first | rfl | (rw [dgs_zero]; rfl) | (rw [List.drop_length]; rfl) | (simp; done) | (congr 2; omega) | (congr 3; omega)) ?_))
  refine J.loadN (k := .q) trivial 2 rfl rfl agg24 (wc x0) rfl rfl rfl ?_
  refine J.call0 (k := .q) trivial fok122 rfl rfl (fun w hw => We.below w _) ?_
  refine J.loadN (k := .q) trivial 3 rfl rfl agg24 (wc x1) rfl rfl rfl ?_
  refine J.call0 (k := .q) trivial fok122 rfl rfl (fun w hw => We.below w _) ?_
  refine J.neqB Tryd.underlying4 rfl rfl rfl (by exact neqB_dec _ _) ?_
  refine J.end ?_
  refine X.then ?_
  refine T.cond_dec rfl (fun h1 => ?_) (fun h1 => ?_)
  · skip
    refine T.seq ?_
    refine T.text [.l, .l, .l] rfl ?_
    refine J.loadN (k := .l) trivial 5 rfl rfl agg24 (wc (divN ((absN x0)) ((absN x1)))) rfl rfl rfl ?_
    refine J.call0 (k := .l) trivial fok123 rfl rfl (fun w hw => We.negated w _) ?_
    refine J.store 4 rfl rfl rfl rfl (wc (negN ((divN ((absN x0)) ((absN x1)))))) rfl sz24 (by first | decide | exact Nat.le_refl _ | exact Nat.le_of_ble_eq_true rfl | (simp [rowN]; done) | (simp [rowN]; omega)) (by first | exact rowN_one _ _ | (simp; done) | (intro u hu; simp at hu; subst hu; rfl) | (intro u hu; simp at hu; rcases hu with rfl | rfl <;> rfl)) (by first | decide | exact Nat.zero_lt_succ _ | simp) trivial (wc (negN ((divN ((absN x0)) ((absN x1)))))) rfl ?_
    refine J.end ?_
    refine X.then ?_
    refine T.ret ?_
    refine X.then_ret ?_
    exact X.ret1 rfl (RV.agg 4 rfl rfl agg24 (wc (negN ((divN ((absN x0)) ((absN x1)))))) (by rfl) (by rfl) rfl) (fun w' hw' => ⟨retW (by unfold sdivN; rw [if_pos (by assumption)]), hw'.sub (Sub.nil _)⟩)
  · skip
    refine T.skip ?_
    refine X.then ?_
    refine T.seq ?_
    refine T.text [.l, .l] rfl ?_
    refine J.loadN (k := .l) trivial 5 rfl rfl agg24 (wc (divN ((absN x0)) ((absN x1)))) rfl rfl rfl ?_
    refine J.store 4 rfl rfl rfl rfl (wc (divN ((absN x0)) ((absN x1)))) rfl sz24 (by first | decide | exact Nat.le_refl _ | exact Nat.le_of_ble_eq_true rfl | (simp [rowN]; done) | (simp [rowN]; omega)) (by first | exact rowN_one _ _ | (simp; done) | (intro u hu; simp at hu; subst hu; rfl) | (intro u hu; simp at hu; rcases hu with rfl | rfl <;> rfl)) (by first | decide | exact Nat.zero_lt_succ _ | simp) trivial (wc (divN ((absN x0)) ((absN x1)))) rfl ?_
    refine J.end ?_
    refine X.then ?_
    refine T.ret ?_
    exact X.ret1 rfl (RV.agg 4 rfl rfl agg24 (wc (divN ((absN x0)) ((absN x1)))) (by rfl) (by rfl) rfl) (fun w' hw' => ⟨retW (by unfold sdivN; rw [if_neg (by assumption)]), hw'.sub (Sub.nil _)⟩)

theorem SMod (w : World) (x0 : Nat) (x1 : Nat) :
    Calls Tryd.prog 36 [W x0, W x1].toArray w fun e w' => e = .returned (W (smodN x0 x1)) ∧ WS w [] [] w' := by
  refine calls_of_T [] 16 [] Tryd.func36 rfl Tryd.ntmps36 (by simp) (WS.refl _ _) ?_
  refine T.seq ?_
  refine T.text [.l, .l, .l] rfl ?_
  refine J.box 2 rfl rfl (wc x0) rfl rfl (fun g2 hg2 => ?_)
  refine J.box 3 rfl rfl (wc x1) rfl rfl (fun g3 hg3 => ?_)
  refine J.alloc 4 rfl zero24 [.int .u64 0, .int .u64 0, .int .u64 0, .int .u64 0] rfl rfl (fun g4 hg4 => ?_)
  refine J.end ?_
  refine X.then ?_
  refine T.seq ?_
  refine T.draw [] [(0, .q), (1, .q), (2, .q), (3, .q), (4, .q), (5, .a 5), (6, .l)] (by kernel_rfl) (by kernel_rfl) ?_ (by repeat (first | exact Sub.nil _ | refine Sub.cons (by first | rfl | (rw [dgs_zero]; rfl) | (rw [List.drop_length]; rfl) | (simp; done) | (congr 2; omega) | (congr 3; omega)) ?_))
  refine J.loadN (k := .q) trivial 2 rfl rfl agg24 (wc x0) rfl rfl rfl ?_
  refine J.call0 (k := .q) trivial fok121 rfl rfl (fun w hw => We.unsigned w _) ?_
  refine J.loadN (k := .q) trivial 3 rfl rfl agg24 (wc x1) rfl rfl rfl ?_
  refine J.call0 (k := .q) trivial fok121 rfl rfl (fun w hw => We.unsigned w _) ?_
  refine J.call0 (k := .q) trivial fok31 rfl rfl (fun w hw => We.Mod w _ _) ?_
  refine J.allocA 5 rfl rfl zero24 [.int .u64 0, .int .u64 0, .int .u64 0, .int .u64 0] rfl rfl (fun g5 hg5 => ?_)
  refine J.store 5 rfl rfl rfl rfl (wc (modN ((absN x0)) ((absN x1)))) rfl sz24 (by first | decide | exact Nat.le_refl _ | exact Nat.le_of_ble_eq_true rfl | (simp [rowN]; done) | (simp [rowN]; omega)) (by first | exact rowN_one _ _ | (simp; done) | (intro u hu; simp at hu; subst hu; rfl) | (intro u hu; simp at hu; rcases hu with rfl | rfl <;> rfl)) (by first | decide | exact Nat.zero_lt_succ _ | simp) trivial (wc (modN ((absN x0)) ((absN x1)))) rfl ?_
  refine J.end ?_
  refine X.then ?_
  refine T.seq ?_
  refine T.seq ?_
  refine T.text [.l, .l] rfl ?_
  refine J.loadN (k := .l) trivial 2 rfl rfl agg24 (wc x0) rfl rfl rfl ?_
  refine J.call0 (k := .l) trivial fok122 rfl rfl (fun w hw => We.below w _) ?_
  refine J.end ?_
  refine X.then ?_
  refine T.cond_dec rfl (fun h1 => ?_) (fun h1 => ?_)
  · skip
    refine T.seq ?_
    refine T.text [.l, .l, .l] rfl ?_
    refine J.loadN (k := .l) trivial 5 rfl rfl agg24 (wc (modN ((absN x0)) ((absN x1)))) rfl rfl rfl ?_
    refine J.call0 (k := .l) trivial fok123 rfl rfl (fun w hw => We.negated w _) ?_
    refine J.store 4 rfl rfl rfl rfl (wc (negN ((modN ((absN x0)) ((absN x1)))))) rfl sz24 (by first | decide | exact Nat.le_refl _ | exact Nat.le_of_ble_eq_true rfl | (simp [rowN]; done) | (simp [rowN]; omega)) (by first | exact rowN_one _ _ | (simp; done) | (intro u hu; simp at hu; subst hu; rfl) | (intro u hu; simp at hu; rcases hu with rfl | rfl <;> rfl)) (by first | decide | exact Nat.zero_lt_succ _ | simp) trivial (wc (negN ((modN ((absN x0)) ((absN x1)))))) rfl ?_
    refine J.end ?_
    refine X.then ?_
    refine T.ret ?_
    refine X.then_ret ?_
    exact X.ret1 rfl (RV.agg 4 rfl rfl agg24 (wc (negN ((modN ((absN x0)) ((absN x1)))))) (by rfl) (by rfl) rfl) (fun w' hw' => ⟨retW (by unfold smodN; rw [if_pos (by assumption)]), hw'.sub (Sub.nil _)⟩)
  · skip
    refine T.skip ?_
    refine X.then ?_
    refine T.seq ?_
    refine T.text [.l, .l] rfl ?_
    refine J.loadN (k := .l) trivial 5 rfl rfl agg24 (wc (modN ((absN x0)) ((absN x1)))) rfl rfl rfl ?_
    refine J.store 4 rfl rfl rfl rfl (wc (modN ((absN x0)) ((absN x1)))) rfl sz24 (by first | decide | exact Nat.le_refl _ | exact Nat.le_of_ble_eq_true rfl | (simp [rowN]; done) | (simp [rowN]; omega)) (by first | exact rowN_one _ _ | (simp; done) | (intro u hu; simp at hu; subst hu; rfl) | (intro u hu; simp at hu; rcases hu with rfl | rfl <;> rfl)) (by first | decide | exact Nat.zero_lt_succ _ | simp) trivial (wc (modN ((absN x0)) ((absN x1)))) rfl ?_
    refine J.end ?_
    refine X.then ?_
    refine T.ret ?_
    exact X.ret1 rfl (RV.agg 4 rfl rfl agg24 (wc (modN ((absN x0)) ((absN x1)))) (by rfl) (by rfl) rfl) (fun w' hw' => ⟨retW (by unfold smodN; rw [if_neg (by assumption)]), hw'.sub (Sub.nil _)⟩)

theorem Shl (w : World) (x0 : Nat) (x1 : Nat) :
    Calls Tryd.prog 59 [W x0, W x1].toArray w fun e w' => e = .returned (W (shlN x0 x1)) ∧ WS w [] [] w' := by
  refine calls_of_T [] 57 [] Tryd.func59 rfl Tryd.ntmps59 (by simp) (WS.refl _ _) ?_
  refine T.seq ?_
  refine T.text [.l, .l, .l] rfl ?_
  refine J.box 2 rfl rfl (wc x0) rfl rfl (fun g2 hg2 => ?_)
  refine J.box 3 rfl rfl (wc x1) rfl rfl (fun g3 hg3 => ?_)
  refine J.alloc 4 rfl zero24 [.int .u64 0, .int .u64 0, .int .u64 0, .int .u64 0] rfl rfl (fun g4 hg4 => ?_)
  refine J.end ?_
  refine X.then ?_
  refine T.seq ?_
  refine T.text [.l] rfl ?_
  refine J.alloc 5 rfl zero24 [.int .u64 0, .int .u64 0, .int .u64 0, .int .u64 0] rfl rfl (fun g5 hg5 => ?_)
  refine J.end ?_
  refine X.then ?_
  refine T.seq ?_
  refine T.seq ?_
  refine T.text [.l, .l, .l, .l] rfl ?_
  refine J.loadN (k := .l) trivial 2 rfl rfl agg24 (wc x0) rfl rfl rfl ?_
  refine J.build rfl rfl (W 256) (fun w => by kernel_rfl) ?_
  refine J.call0 (k := .l) trivial fok54 rfl rfl (fun w hw => Wa.Lt w _ _) ?_
  refine J.not rfl rfl (by rw [← decide_not]) ?_
  refine J.end ?_
  refine X.then ?_
  refine T.cond_dec rfl (fun h1 => ?_) (fun h1 => ?_)
  · skip
    refine T.seq ?_
    refine T.text [.l, .l] rfl ?_
    refine J.loadN (k := .l) trivial 5 rfl rfl agg24 [.int .u64 0, .int .u64 0, .int .u64 0, .int .u64 0] rfl rfl rfl ?_
    refine J.store 4 rfl rfl rfl rfl [.int .u64 0, .int .u64 0, .int .u64 0, .int .u64 0] rfl sz24 (by first | decide | exact Nat.le_refl _ | exact Nat.le_of_ble_eq_true rfl | (simp [rowN]; done) | (simp [rowN]; omega)) (by first | exact rowN_one _ _ | (simp; done) | (intro u hu; simp at hu; subst hu; rfl) | (intro u hu; simp at hu; rcases hu with rfl | rfl <;> rfl)) (by first | decide | exact Nat.zero_lt_succ _ | simp) trivial [.int .u64 0, .int .u64 0, .int .u64 0, .int .u64 0] rfl ?_
    refine J.end ?_
    refine X.then ?_
    refine T.ret ?_
    refine X.then_ret ?_
    exact X.ret1 rfl (RV.agg 4 rfl rfl agg24 [.int .u64 0, .int .u64 0, .int .u64 0, .int .u64 0] (by rfl) (by rfl) rfl) (fun w' hw' => ⟨by rw [shlN_zero _ _ (by omega)]; rfl, hw'.sub (Sub.nil _)⟩)
  · have hlx : lim x0 0 = x0 % 2 ^ 256 := lim_low (by omega)
    have hS : x0 % 2 ^ 256 = 64 * (lim x0 0 / 64) + (lim x0 0 % 64) := by omega
    have hp : (lim x0 0 % 64) < 64 := by omega
    have hw4 : (lim x0 0 / 64) < 4 := by omega
    refine T.skip ?_
    refine X.then ?_
    refine T.seq ?_
    refine T.draw [] [(0, .g), (1, .q), (2, .g), (3, .g), (4, .g), (5, .q), (6, .g), (7, .g), (8, .g)] (by kernel_rfl) (by kernel_rfl) ?_ (by repeat (first | exact Sub.nil _ | refine Sub.cons (by first | rfl | (rw [dgs_zero]; rfl) | (rw [List.drop_length]; rfl) | (simp; done) | (congr 2; omega) | (congr 3; omega)) ?_))
    refine J.indexArr arr24 rfl rfl (by omega) (by omega) (by rfl) rfl ?_
    refine J.load1 (k := .q) trivial 2 rfl rfl one22 (by exact wc_at _ 0 (by omega)) rfl ?_
    have hl15 := lim_lt x0 0
    refine J.quo rfl rfl rfl (by omega) (by first | exact quou_nat _ 64 (by omega) | exact u64_quo_ok _ _ (by omega) | exact rfl) ?_
    refine J.conv (by rw [Tryd.underlying22]; rfl) Tryd.underlying3 rfl rfl (by first | exact wrap_nat64 _ (by omega) | exact i64_ok _ (by omega) | exact rfl) ?_
    refine J.indexArr arr24 rfl rfl (by omega) (by omega) (by rfl) rfl ?_
    refine J.load1 (k := .q) trivial 2 rfl rfl one22 (by exact wc_at _ 0 (by omega)) rfl ?_
    have hl19 := lim_lt x0 0
    refine J.rem rfl rfl rfl (by omega) (by first | exact rem_nat _ 64 | exact rem_ok _ _ (by omega) | exact rfl) ?_
    refine J.assign rfl rfl ?_
    refine J.assign rfl rfl ?_
    refine J.end ?_
    refine X.then ?_
    refine T.seq ?_
    refine T.seq ?_
    refine T.text [.l] rfl ?_
    refine J.assign rfl rfl ?_
    refine J.end ?_
    refine X.then ?_
    refine T.block ?_
    refine T.loop (ι := Nat × List Nat) (fun ((u, ys) : Nat × List Nat) => (lim x0 0 / 64) ≤ u ∧ u ≤ 4 ∧ ys.length = 4 ∧ (∀ q, u ≤ q → q < 4 → ys.getD q 0 = lim (shlN x0 x1) q) ∧ ∀ q, q < u → ys.getD q 0 = 0) (fun ((u, ys) : Nat × List Nat) => [(0, W x0), (1, W x1), (2, .pointer (some ⟨g2, 0, none⟩)), (3, .pointer (some ⟨g3, 0, none⟩)), (4, .pointer (some ⟨g4, 0, none⟩)), (5, .pointer (some ⟨g5, 0, none⟩)), (9, W x0), (10, (W 256)), (15, .int .u64 ((lim x0 0 : Nat) : Int)), (19, .int .u64 ((lim x0 0 : Nat) : Int)), (8, .int .i64 ((u : Int) - 1)), (6, .int .i64 (((lim x0 0 / 64) : Nat) : Int)), (7, .int .u64 (((lim x0 0 % 64) : Nat) : Int))]) (fun ((u, ys) : Nat × List Nat) => [(2, ⟨some g2, 24, (wc x0)⟩), (3, ⟨some g3, 24, (wc x1)⟩), (4, ⟨some g4, 24, [.int .u64 0, .int .u64 0, .int .u64 0, .int .u64 0]⟩), (5, ⟨some g5, 24, rowN .u64 ys⟩)]) (fun ((u, ys) : Nat × List Nat) => u) ⟨4, [0, 0, 0, 0]⟩ ⟨by omega, by omega, rfl, fun q h1 h2 => by omega, fun q hq => by rcases q with _ | _ | _ | _ | q <;> first | rfl | omega⟩ (by repeat (first | exact Sub.nil _ | refine Sub.cons (by first | rfl | (rw [dgs_zero]; rfl) | (rw [List.drop_length]; rfl) | (simp; done) | (congr 2; omega) | (congr 3; omega)) ?_)) (by repeat (first | exact Sub.nil _ | refine Sub.cons (by first | rfl | (rw [dgs_zero]; rfl) | (rw [List.drop_length]; rfl) | (simp; done) | (congr 2; omega) | (congr 3; omega)) ?_)) ?_
    rintro ⟨u, ys⟩ ⟨hwu, hu, hl, hy, hz⟩
    try dsimp only at *
    refine T.seq ?_
    refine T.seq ?_
    refine T.text [.l, .l, .l] rfl ?_
    refine J.move rfl rfl ?_
    refine J.move rfl rfl ?_
    refine J.geq rfl rfl rfl rfl ?_
    refine J.end ?_
    refine X.then ?_
    refine T.cond_dec rfl (fun h2 => ?_) (fun h2 => ?_)
    · obtain ⟨k, rfl⟩ : ∃ k, u = k + 1 := ⟨u - 1, by omega⟩
      refine T.as 8 (.int .i64 (k : Int)) rfl (by first | rfl | (congr 1; omega)) ?_
      have hk4 : k < 4 := by omega
      have hkw : (lim x0 0 / 64) ≤ k := by omega
      refine T.skip ?_
      refine X.then ?_
      refine T.seq ?_
      refine T.block ?_
      refine T.seq ?_
      refine T.text [.l, .l, .l, .l, .l, .l, .l, .l, .l, .l] rfl ?_
      refine J.move rfl rfl ?_
      refine J.move rfl rfl ?_
      refine J.move rfl rfl ?_
      refine J.sub' rfl rfl rfl (by first | exact sub_nat _ _ (by omega) | exact i64_ok _ (by omega) | exact rfl) ?_
      refine J.indexArr arr24 rfl rfl (by omega) (by omega) (by first | exact Int.toNat_natCast _ | rfl) rfl ?_
      refine J.load1 (k := .l) trivial 3 rfl rfl one22 (by exact wc_at _ _ (by omega)) rfl ?_
      have hl31 := lim_lt x1 (k - (lim x0 0 / 64))
      refine J.move rfl rfl ?_
      refine J.shl rfl rfl rfl (by omega) (by exact shl_nat' _ (lim x0 0 % 64) (by omega)) ?_
      refine J.indexArr arr24 rfl rfl (by omega) (by omega) (by first | exact Int.toNat_natCast _ | rfl) rfl ?_
      refine J.store 5 rfl rfl rfl rfl [.int .u64 ((lim x1 (k - (lim x0 0 / 64)) * 2 ^ (lim x0 0 % 64) % 18446744073709551616 : Nat) : Int)] rfl sz22 (by (try rw [rowN_length, List.length_set]); (try rw [rowN_length]); rw [hl]; show _ + 1 ≤ 4; omega) (by first | exact rowN_one _ _ | (simp; done) | (intro u hu; simp at hu; subst hu; rfl) | (intro u hu; simp at hu; rcases hu with rfl | rfl <;> rfl)) (by first | decide | exact Nat.zero_lt_succ _ | simp) trivial (rowN .u64 (ys.set k (lim x1 (k - (lim x0 0 / 64)) * 2 ^ (lim x0 0 % 64) % 18446744073709551616))) (by rw [Nat.zero_add, Nat.mul_one]; exact (putN' _ _ _ _ (by first | omega | (rw [List.length_set]; omega)))) ?_
      refine J.end ?_
      refine X.then ?_
      refine T.seq ?_
      refine T.text [.l, .l, .l, .l, .l, .l, .l] rfl ?_
      refine J.move rfl rfl ?_
      refine J.move rfl rfl ?_
      refine J.gtr rfl rfl rfl rfl ?_
      refine J.move rfl rfl ?_
      refine J.split 38 rfl (fun h3 => ?_) (fun h3 => ?_)
      · skip
        refine J.yes rfl rfl ?_
        refine J.move rfl rfl ?_
        refine J.yes rfl rfl ?_
        refine J.gtr rfl rfl rfl rfl ?_
        refine J.pick_t rfl rfl rfl ?_
        refine J.end ?_
        refine X.then ?_
        refine T.cond_dec rfl (fun h4 => ?_) (fun h4 => ?_)
        · skip
          refine T.draw [] [(0, .g), (1, .g), (2, .q), (3, .g), (4, .g), (5, .g), (6, .g), (7, .g), (8, .q), (9, .g), (10, .g), (11, .g), (12, .g), (13, .g), (14, .l)] (by kernel_rfl) (by kernel_rfl) ?_ (by repeat (first | exact Sub.nil _ | refine Sub.cons (by first | rfl | (rw [dgs_zero]; rfl) | (rw [List.drop_length]; rfl) | (simp; done) | (congr 2; omega) | (congr 3; omega)) ?_))
          refine J.move rfl rfl ?_
          refine J.indexArr arr24 rfl rfl (by omega) (by omega) (by first | exact Int.toNat_natCast _ | rfl) rfl ?_
          refine J.load1 (k := .q) trivial 5 rfl rfl one22 (by exact rowN_get0 _ _ _ (by rw [List.length_set]; omega)) rfl ?_
          refine J.as 44 (.int .u64 ((lim x1 (k - (lim x0 0 / 64)) * 2 ^ (lim x0 0 % 64) % 18446744073709551616 : Nat) : Int)) rfl (by rw [getD_set _ _ _ _ (by omega), if_pos rfl]) ?_
          refine J.move rfl rfl ?_
          refine J.move rfl rfl ?_
          refine J.sub' rfl rfl rfl (by first | exact sub_nat _ _ (by omega) | exact i64_ok _ (by omega) | exact rfl) ?_
          refine J.sub' rfl rfl rfl (by first | exact sub_nat _ 1 (by omega) | exact i64_ok _ (by omega) | exact rfl) ?_
          refine J.indexArr arr24 rfl rfl (by omega) (by omega) (by first | exact Int.toNat_natCast _ | rfl) rfl ?_
          refine J.load1 (k := .q) trivial 3 rfl rfl one22 (by exact wc_at _ _ (by omega)) rfl ?_
          have hl50 := lim_lt x1 (k - (lim x0 0 / 64) - 1)
          refine J.move rfl rfl ?_
          refine J.sub' rfl rfl rfl (by first | exact subu_nat 64 _ (by omega) | exact u64_ok _ (by omega) | exact u64_wrap _) ?_
          refine J.shr rfl rfl rfl (by omega) (by exact shr_nat _ (64 - (lim x0 0 % 64)) (by omega)) ?_
          refine J.bor rfl rfl rfl (by exact or_nat _ _ ⟨Nat.mod_lt _ (by omega), Nat.lt_of_le_of_lt (Nat.div_le_self _ _) hl50⟩) ?_
          refine J.indexArr arr24 rfl rfl (by omega) (by omega) (by first | exact Int.toNat_natCast _ | rfl) rfl ?_
          refine J.store 5 rfl rfl rfl rfl [.int .u64 ((lim x1 (k - (lim x0 0 / 64)) * 2 ^ (lim x0 0 % 64) % 18446744073709551616 ||| lim x1 (k - (lim x0 0 / 64) - 1) / 2 ^ (64 - (lim x0 0 % 64)) : Nat) : Int)] rfl sz22 (by rw [rowN_length, List.length_set, hl]; show _ + 1 ≤ 4; omega) (by first | exact rowN_one _ _ | (simp; done) | (intro u hu; simp at hu; subst hu; rfl) | (intro u hu; simp at hu; rcases hu with rfl | rfl <;> rfl)) (by first | decide | exact Nat.zero_lt_succ _ | simp) trivial (rowN .u64 (ys.set k (lim (shlN x0 x1) k))) (by rw [Nat.zero_add, Nat.mul_one]; exact (putN' _ _ _ _ (by rw [List.length_set]; omega)).trans (congrArg (rowN .u64) (by rw [List.set_set, shl_both hS hp (by omega) hk4]))) ?_
          refine J.end ?_
          refine X.inBlock (X.then ?_)
          refine T.text [.l, .l, .l] rfl ?_
          refine J.move rfl rfl ?_
          refine J.sub' rfl rfl rfl (by exact i64_ok _ (by omega)) ?_
          refine J.assign rfl rfl ?_
          refine J.end ?_
          exact X.round ⟨k, (ys.set k (lim (shlN x0 x1) k))⟩ ⟨by omega, by omega, by simp [hl], set_down hl hk4 hy (by first | rfl | exact shl_last hS hp (by omega) hk4 (by omega)), set_zlow hl hk4 hz⟩ (by first | omega | (dsimp only; omega)) (by repeat (first | exact Sub.nil _ | refine Sub.cons (by first | rfl | (rw [dgs_zero]; rfl) | (rw [List.drop_length]; rfl) | (simp; done) | (congr 2; omega) | (congr 3; omega)) ?_)) (by repeat (first | exact Sub.nil _ | refine Sub.cons (by first | rfl | (rw [dgs_zero]; rfl) | (rw [List.drop_length]; rfl) | (simp; done) | (congr 2; omega) | (congr 3; omega)) ?_))
        · skip
          refine T.skip ?_
          refine X.inBlock (X.then ?_)
          refine T.text [.l, .l, .l] rfl ?_
          refine J.move rfl rfl ?_
          refine J.sub' rfl rfl rfl (by exact i64_ok _ (by omega)) ?_
          refine J.assign rfl rfl ?_
          refine J.end ?_
          exact X.round ⟨k, (ys.set k (lim x1 (k - (lim x0 0 / 64)) * 2 ^ (lim x0 0 % 64) % 18446744073709551616))⟩ ⟨by omega, by omega, by simp [hl], set_down hl hk4 hy (by first | rfl | exact shl_last hS hp (by omega) hk4 (by omega)), set_zlow hl hk4 hz⟩ (by first | omega | (dsimp only; omega)) (by repeat (first | exact Sub.nil _ | refine Sub.cons (by first | rfl | (rw [dgs_zero]; rfl) | (rw [List.drop_length]; rfl) | (simp; done) | (congr 2; omega) | (congr 3; omega)) ?_)) (by repeat (first | exact Sub.nil _ | refine Sub.cons (by first | rfl | (rw [dgs_zero]; rfl) | (rw [List.drop_length]; rfl) | (simp; done) | (congr 2; omega) | (congr 3; omega)) ?_))
      · skip
        refine J.no rfl rfl rfl rfl ?_
        refine J.no rfl rfl rfl rfl ?_
        refine J.pick_f rfl rfl rfl ?_
        refine J.end ?_
        refine X.then ?_
        refine T.cond_false rfl ?_
        refine T.skip ?_
        refine X.inBlock (X.then ?_)
        refine T.text [.l, .l, .l] rfl ?_
        refine J.move rfl rfl ?_
        refine J.sub' rfl rfl rfl (by exact i64_ok _ (by omega)) ?_
        refine J.assign rfl rfl ?_
        refine J.end ?_
        exact X.round ⟨k, (ys.set k (lim x1 (k - (lim x0 0 / 64)) * 2 ^ (lim x0 0 % 64) % 18446744073709551616))⟩ ⟨by omega, by omega, by simp [hl], set_down hl hk4 hy (by first | rfl | exact shl_last hS hp (by omega) hk4 (by omega)), set_zlow hl hk4 hz⟩ (by first | omega | (dsimp only; omega)) (by repeat (first | exact Sub.nil _ | refine Sub.cons (by first | rfl | (rw [dgs_zero]; rfl) | (rw [List.drop_length]; rfl) | (simp; done) | (congr 2; omega) | (congr 3; omega)) ?_)) (by repeat (first | exact Sub.nil _ | refine Sub.cons (by first | rfl | (rw [dgs_zero]; rfl) | (rw [List.drop_length]; rfl) | (simp; done) | (congr 2; omega) | (congr 3; omega)) ?_))
    · obtain rfl : ys = wl (shlN x0 x1) := wl_of hl _ (fun q hq => by
      rcases Nat.lt_or_ge q (lim x0 0 / 64) with h | h
      · rw [hz q (by omega), shl_lim x1 q hS hp hw4 hq, if_pos h]
      · exact hy q (by omega) hq)
      refine T.exit ?_
      refine X.then_exit (X.then_exit (X.inBlock_eq (X.then ?_)))
      refine T.seq ?_
      refine T.text [.l, .l] rfl ?_
      refine J.loadN (k := .l) trivial 5 rfl rfl agg24 (wc (shlN x0 x1)) rfl rfl rfl ?_
      refine J.store 4 rfl rfl rfl rfl (wc (shlN x0 x1)) rfl sz24 (by first | decide | exact Nat.le_refl _ | exact Nat.le_of_ble_eq_true rfl | (simp [rowN]; done) | (simp [rowN]; omega)) (by first | exact rowN_one _ _ | (simp; done) | (intro u hu; simp at hu; subst hu; rfl) | (intro u hu; simp at hu; rcases hu with rfl | rfl <;> rfl)) (by first | decide | exact Nat.zero_lt_succ _ | simp) trivial (wc (shlN x0 x1)) rfl ?_
      refine J.end ?_
      refine X.then ?_
      refine T.ret ?_
      exact X.ret1 rfl (RV.agg 4 rfl rfl agg24 (wc (shlN x0 x1)) (by rfl) (by rfl) rfl) (fun w' hw' => ⟨rfl, hw'.sub (Sub.nil _)⟩)

theorem Shr (w : World) (x0 : Nat) (x1 : Nat) :
    Calls Tryd.prog 60 [W x0, W x1].toArray w fun e w' => e = .returned (W (shrN x0 x1)) ∧ WS w [] [] w' := by
  refine calls_of_T [] 59 [] Tryd.func60 rfl Tryd.ntmps60 (by simp) (WS.refl _ _) ?_
  refine T.seq ?_
  refine T.text [.l, .l, .l] rfl ?_
  refine J.box 2 rfl rfl (wc x0) rfl rfl (fun g2 hg2 => ?_)
  refine J.box 3 rfl rfl (wc x1) rfl rfl (fun g3 hg3 => ?_)
  refine J.alloc 4 rfl zero24 [.int .u64 0, .int .u64 0, .int .u64 0, .int .u64 0] rfl rfl (fun g4 hg4 => ?_)
  refine J.end ?_
  refine X.then ?_
  refine T.seq ?_
  refine T.text [.l] rfl ?_
  refine J.alloc 5 rfl zero24 [.int .u64 0, .int .u64 0, .int .u64 0, .int .u64 0] rfl rfl (fun g5 hg5 => ?_)
  refine J.end ?_
  refine X.then ?_
  refine T.seq ?_
  refine T.seq ?_
  refine T.text [.l, .l, .l, .l] rfl ?_
  refine J.loadN (k := .l) trivial 2 rfl rfl agg24 (wc x0) rfl rfl rfl ?_
  refine J.build rfl rfl (W 256) (fun w => by kernel_rfl) ?_
  refine J.call0 (k := .l) trivial fok54 rfl rfl (fun w hw => Wa.Lt w _ _) ?_
  refine J.not rfl rfl (by rw [← decide_not]) ?_
  refine J.end ?_
  refine X.then ?_
  refine T.cond_dec rfl (fun h1 => ?_) (fun h1 => ?_)
  · skip
    refine T.seq ?_
    refine T.text [.l, .l] rfl ?_
    refine J.loadN (k := .l) trivial 5 rfl rfl agg24 [.int .u64 0, .int .u64 0, .int .u64 0, .int .u64 0] rfl rfl rfl ?_
    refine J.store 4 rfl rfl rfl rfl [.int .u64 0, .int .u64 0, .int .u64 0, .int .u64 0] rfl sz24 (by first | decide | exact Nat.le_refl _ | exact Nat.le_of_ble_eq_true rfl | (simp [rowN]; done) | (simp [rowN]; omega)) (by first | exact rowN_one _ _ | (simp; done) | (intro u hu; simp at hu; subst hu; rfl) | (intro u hu; simp at hu; rcases hu with rfl | rfl <;> rfl)) (by first | decide | exact Nat.zero_lt_succ _ | simp) trivial [.int .u64 0, .int .u64 0, .int .u64 0, .int .u64 0] rfl ?_
    refine J.end ?_
    refine X.then ?_
    refine T.ret ?_
    refine X.then_ret ?_
    exact X.ret1 rfl (RV.agg 4 rfl rfl agg24 [.int .u64 0, .int .u64 0, .int .u64 0, .int .u64 0] (by rfl) (by rfl) rfl) (fun w' hw' => ⟨by rw [shrN_zero _ _ (by omega)]; rfl, hw'.sub (Sub.nil _)⟩)
  · have hlx : lim x0 0 = x0 % 2 ^ 256 := lim_low (by omega)
    have hS : x0 % 2 ^ 256 = 64 * (lim x0 0 / 64) + (lim x0 0 % 64) := by omega
    have hp : (lim x0 0 % 64) < 64 := by omega
    have hw4 : (lim x0 0 / 64) < 4 := by omega
    refine T.skip ?_
    refine X.then ?_
    refine T.seq ?_
    refine T.draw [] [(0, .g), (1, .q), (2, .g), (3, .g), (4, .g), (5, .q), (6, .g), (7, .g), (8, .g)] (by kernel_rfl) (by kernel_rfl) ?_ (by repeat (first | exact Sub.nil _ | refine Sub.cons (by first | rfl | (rw [dgs_zero]; rfl) | (rw [List.drop_length]; rfl) | (simp; done) | (congr 2; omega) | (congr 3; omega)) ?_))
    refine J.indexArr arr24 rfl rfl (by omega) (by omega) (by rfl) rfl ?_
    refine J.load1 (k := .q) trivial 2 rfl rfl one22 (by exact wc_at _ 0 (by omega)) rfl ?_
    have hl15 := lim_lt x0 0
    refine J.quo rfl rfl rfl (by omega) (by first | exact quou_nat _ 64 (by omega) | exact u64_quo_ok _ _ (by omega) | exact rfl) ?_
    refine J.conv (by rw [Tryd.underlying22]; rfl) Tryd.underlying3 rfl rfl (by first | exact wrap_nat64 _ (by omega) | exact i64_ok _ (by omega) | exact rfl) ?_
    refine J.indexArr arr24 rfl rfl (by omega) (by omega) (by rfl) rfl ?_
    refine J.load1 (k := .q) trivial 2 rfl rfl one22 (by exact wc_at _ 0 (by omega)) rfl ?_
    have hl19 := lim_lt x0 0
    refine J.rem rfl rfl rfl (by omega) (by first | exact rem_nat _ 64 | exact rem_ok _ _ (by omega) | exact rfl) ?_
    refine J.assign rfl rfl ?_
    refine J.assign rfl rfl ?_
    refine J.end ?_
    refine X.then ?_
    refine T.seq ?_
    refine T.seq ?_
    refine T.text [.l] rfl ?_
    refine J.assign rfl rfl ?_
    refine J.end ?_
    refine X.then ?_
    refine T.block ?_
    refine T.loop (ι := Nat × List Nat) (fun ((i, ys) : Nat × List Nat) => i + (lim x0 0 / 64) ≤ 4 ∧ ys.length = 4 ∧ (∀ q, q < i → ys.getD q 0 = lim (shrN x0 x1) q) ∧ ∀ q, i ≤ q → ys.getD q 0 = 0) (fun ((i, ys) : Nat × List Nat) => [(0, W x0), (1, W x1), (2, .pointer (some ⟨g2, 0, none⟩)), (3, .pointer (some ⟨g3, 0, none⟩)), (4, .pointer (some ⟨g4, 0, none⟩)), (5, .pointer (some ⟨g5, 0, none⟩)), (9, W x0), (10, (W 256)), (15, .int .u64 ((lim x0 0 : Nat) : Int)), (19, .int .u64 ((lim x0 0 : Nat) : Int)), (8, .int .i64 (i : Int)), (6, .int .i64 (((lim x0 0 / 64) : Nat) : Int)), (7, .int .u64 (((lim x0 0 % 64) : Nat) : Int))]) (fun ((i, ys) : Nat × List Nat) => [(2, ⟨some g2, 24, (wc x0)⟩), (3, ⟨some g3, 24, (wc x1)⟩), (4, ⟨some g4, 24, [.int .u64 0, .int .u64 0, .int .u64 0, .int .u64 0]⟩), (5, ⟨some g5, 24, rowN .u64 ys⟩)]) (fun ((i, ys) : Nat × List Nat) => 4 - i) ⟨0, [0, 0, 0, 0]⟩ ⟨by omega, rfl, fun q h1 => by omega, fun q _ => by rcases q with _ | _ | _ | _ | q <;> rfl⟩ (by repeat (first | exact Sub.nil _ | refine Sub.cons (by first | rfl | (rw [dgs_zero]; rfl) | (rw [List.drop_length]; rfl) | (simp; done) | (congr 2; omega) | (congr 3; omega)) ?_)) (by repeat (first | exact Sub.nil _ | refine Sub.cons (by first | rfl | (rw [dgs_zero]; rfl) | (rw [List.drop_length]; rfl) | (simp; done) | (congr 2; omega) | (congr 3; omega)) ?_)) ?_
    rintro ⟨i, ys⟩ ⟨hiw, hl, hy, hz⟩
    try dsimp only at *
    refine T.seq ?_
    refine T.seq ?_
    refine T.text [.l, .l, .l, .l] rfl ?_
    refine J.move rfl rfl ?_
    refine J.move rfl rfl ?_
    refine J.add rfl rfl rfl (by first | exact add_nat _ _ (by omega) | exact i64_ok _ (by omega) | exact rfl) ?_
    refine J.lss rfl rfl rfl rfl ?_
    refine J.end ?_
    refine X.then ?_
    refine T.cond_dec rfl (fun h2 => ?_) (fun h2 => ?_)
    · have hi4 : i < 4 := by omega
      have hiw4 : i + (lim x0 0 / 64) < 4 := by omega
      refine T.skip ?_
      refine X.then ?_
      refine T.seq ?_
      refine T.block ?_
      refine T.seq ?_
      refine T.text [.l, .l, .l, .l, .l, .l, .l, .l, .l, .l] rfl ?_
      refine J.move rfl rfl ?_
      refine J.move rfl rfl ?_
      refine J.move rfl rfl ?_
      refine J.add rfl rfl rfl (by first | exact add_nat _ _ (by omega) | exact i64_ok _ (by omega) | exact rfl) ?_
      refine J.indexArr arr24 rfl rfl (by omega) (by omega) (by first | exact Int.toNat_natCast _ | rfl) rfl ?_
      refine J.load1 (k := .l) trivial 3 rfl rfl one22 (by exact wc_at _ _ (by omega)) rfl ?_
      have hl32 := lim_lt x1 (i + (lim x0 0 / 64))
      refine J.move rfl rfl ?_
      refine J.shr rfl rfl rfl (by omega) (by exact shr_nat _ (lim x0 0 % 64) (by omega)) ?_
      refine J.indexArr arr24 rfl rfl (by omega) (by omega) (by first | exact Int.toNat_natCast _ | rfl) rfl ?_
      refine J.store 5 rfl rfl rfl rfl [.int .u64 ((lim x1 (i + (lim x0 0 / 64)) / 2 ^ (lim x0 0 % 64) : Nat) : Int)] rfl sz22 (by (try rw [rowN_length, List.length_set]); (try rw [rowN_length]); rw [hl]; show _ + 1 ≤ 4; omega) (by first | exact rowN_one _ _ | (simp; done) | (intro u hu; simp at hu; subst hu; rfl) | (intro u hu; simp at hu; rcases hu with rfl | rfl <;> rfl)) (by first | decide | exact Nat.zero_lt_succ _ | simp) trivial (rowN .u64 (ys.set i (lim x1 (i + (lim x0 0 / 64)) / 2 ^ (lim x0 0 % 64)))) (by rw [Nat.zero_add, Nat.mul_one]; exact (putN' _ _ _ _ (by first | omega | (rw [List.length_set]; omega)))) ?_
      refine J.end ?_
      refine X.then ?_
      refine T.seq ?_
      refine T.text [.l, .l, .l, .l, .l, .l, .l, .l] rfl ?_
      refine J.move rfl rfl ?_
      refine J.move rfl rfl ?_
      refine J.add rfl rfl rfl (by first | exact add_nat _ _ (by omega) | exact i64_ok _ (by omega) | exact rfl) ?_
      refine J.lss rfl rfl rfl rfl ?_
      refine J.move rfl rfl ?_
      refine J.split 40 rfl (fun h3 => ?_) (fun h3 => ?_)
      · skip
        refine J.yes rfl rfl ?_
        refine J.move rfl rfl ?_
        refine J.yes rfl rfl ?_
        refine J.gtr rfl rfl rfl rfl ?_
        refine J.pick_t rfl rfl rfl ?_
        refine J.end ?_
        refine X.then ?_
        refine T.cond_dec rfl (fun h4 => ?_) (fun h4 => ?_)
        · skip
          refine T.draw [] [(0, .g), (1, .g), (2, .q), (3, .g), (4, .g), (5, .g), (6, .g), (7, .g), (8, .q), (9, .g), (10, .g), (11, .g), (12, .g), (13, .g), (14, .l)] (by kernel_rfl) (by kernel_rfl) ?_ (by repeat (first | exact Sub.nil _ | refine Sub.cons (by first | rfl | (rw [dgs_zero]; rfl) | (rw [List.drop_length]; rfl) | (simp; done) | (congr 2; omega) | (congr 3; omega)) ?_))
          refine J.move rfl rfl ?_
          refine J.indexArr arr24 rfl rfl (by omega) (by omega) (by first | exact Int.toNat_natCast _ | rfl) rfl ?_
          refine J.load1 (k := .q) trivial 5 rfl rfl one22 (by exact rowN_get0 _ _ _ (by rw [List.length_set]; omega)) rfl ?_
          refine J.as 46 (.int .u64 ((lim x1 (i + (lim x0 0 / 64)) / 2 ^ (lim x0 0 % 64) : Nat) : Int)) rfl (by rw [getD_set _ _ _ _ (by omega), if_pos rfl]) ?_
          refine J.move rfl rfl ?_
          refine J.move rfl rfl ?_
          refine J.add rfl rfl rfl (by first | exact add_nat _ _ (by omega) | exact i64_ok _ (by omega) | exact rfl) ?_
          refine J.add rfl rfl rfl (by first | exact add_nat _ 1 (by omega) | exact i64_ok _ (by omega) | exact rfl) ?_
          refine J.indexArr arr24 rfl rfl (by omega) (by omega) (by first | exact Int.toNat_natCast _ | rfl) rfl ?_
          refine J.load1 (k := .q) trivial 3 rfl rfl one22 (by exact wc_at _ _ (by omega)) rfl ?_
          have hl52 := lim_lt x1 (i + (lim x0 0 / 64) + 1)
          refine J.move rfl rfl ?_
          refine J.sub' rfl rfl rfl (by first | exact subu_nat 64 _ (by omega) | exact u64_ok _ (by omega) | exact u64_wrap _) ?_
          refine J.shl rfl rfl rfl (by omega) (by exact shl_nat' _ (64 - (lim x0 0 % 64)) (by omega)) ?_
          refine J.bor rfl rfl rfl (by exact or_nat _ _ ⟨Nat.lt_of_le_of_lt (Nat.div_le_self _ _) (lim_lt _ _), Nat.mod_lt _ (by omega)⟩) ?_
          refine J.indexArr arr24 rfl rfl (by omega) (by omega) (by first | exact Int.toNat_natCast _ | rfl) rfl ?_
          refine J.store 5 rfl rfl rfl rfl [.int .u64 ((lim x1 (i + (lim x0 0 / 64)) / 2 ^ (lim x0 0 % 64) ||| lim x1 (i + (lim x0 0 / 64) + 1) * 2 ^ (64 - (lim x0 0 % 64)) % 18446744073709551616 : Nat) : Int)] rfl sz22 (by rw [rowN_length, List.length_set, hl]; show _ + 1 ≤ 4; omega) (by first | exact rowN_one _ _ | (simp; done) | (intro u hu; simp at hu; subst hu; rfl) | (intro u hu; simp at hu; rcases hu with rfl | rfl <;> rfl)) (by first | decide | exact Nat.zero_lt_succ _ | simp) trivial (rowN .u64 (ys.set i (lim (shrN x0 x1) i))) (by rw [Nat.zero_add, Nat.mul_one]; exact (putN' _ _ _ _ (by rw [List.length_set]; omega)).trans (congrArg (rowN .u64) (by rw [List.set_set, shr_both hS hp (by omega)]))) ?_
          refine J.end ?_
          refine X.inBlock (X.then ?_)
          refine T.text [.l, .l, .l] rfl ?_
          refine J.move rfl rfl ?_
          refine J.add rfl rfl rfl (by first | exact add_nat _ 1 (by omega) | exact i64_ok _ (by omega) | exact rfl) ?_
          refine J.assign rfl rfl ?_
          refine J.end ?_
          exact X.round ⟨(i + 1), (ys.set i (lim (shrN x0 x1) i))⟩ ⟨by omega, by simp [hl], set_low hl hi4 hy (by first | rfl | exact shr_last hS hp hiw4 (by omega)), set_zhigh hl hi4 hz⟩ (by first | omega | (dsimp only; omega)) (by repeat (first | exact Sub.nil _ | refine Sub.cons (by first | rfl | (rw [dgs_zero]; rfl) | (rw [List.drop_length]; rfl) | (simp; done) | (congr 2; omega) | (congr 3; omega)) ?_)) (by repeat (first | exact Sub.nil _ | refine Sub.cons (by first | rfl | (rw [dgs_zero]; rfl) | (rw [List.drop_length]; rfl) | (simp; done) | (congr 2; omega) | (congr 3; omega)) ?_))
        · skip
          refine T.skip ?_
          refine X.inBlock (X.then ?_)
          refine T.text [.l, .l, .l] rfl ?_
          refine J.move rfl rfl ?_
          refine J.add rfl rfl rfl (by first | exact add_nat _ 1 (by omega) | exact i64_ok _ (by omega) | exact rfl) ?_
          refine J.assign rfl rfl ?_
          refine J.end ?_
          exact X.round ⟨(i + 1), (ys.set i (lim x1 (i + (lim x0 0 / 64)) / 2 ^ (lim x0 0 % 64)))⟩ ⟨by omega, by simp [hl], set_low hl hi4 hy (by first | rfl | exact shr_last hS hp hiw4 (by omega)), set_zhigh hl hi4 hz⟩ (by first | omega | (dsimp only; omega)) (by repeat (first | exact Sub.nil _ | refine Sub.cons (by first | rfl | (rw [dgs_zero]; rfl) | (rw [List.drop_length]; rfl) | (simp; done) | (congr 2; omega) | (congr 3; omega)) ?_)) (by repeat (first | exact Sub.nil _ | refine Sub.cons (by first | rfl | (rw [dgs_zero]; rfl) | (rw [List.drop_length]; rfl) | (simp; done) | (congr 2; omega) | (congr 3; omega)) ?_))
      · skip
        refine J.no rfl rfl rfl rfl ?_
        refine J.no rfl rfl rfl rfl ?_
        refine J.pick_f rfl rfl rfl ?_
        refine J.end ?_
        refine X.then ?_
        refine T.cond_false rfl ?_
        refine T.skip ?_
        refine X.inBlock (X.then ?_)
        refine T.text [.l, .l, .l] rfl ?_
        refine J.move rfl rfl ?_
        refine J.add rfl rfl rfl (by first | exact add_nat _ 1 (by omega) | exact i64_ok _ (by omega) | exact rfl) ?_
        refine J.assign rfl rfl ?_
        refine J.end ?_
        exact X.round ⟨(i + 1), (ys.set i (lim x1 (i + (lim x0 0 / 64)) / 2 ^ (lim x0 0 % 64)))⟩ ⟨by omega, by simp [hl], set_low hl hi4 hy (by first | rfl | exact shr_last hS hp hiw4 (by omega)), set_zhigh hl hi4 hz⟩ (by first | omega | (dsimp only; omega)) (by repeat (first | exact Sub.nil _ | refine Sub.cons (by first | rfl | (rw [dgs_zero]; rfl) | (rw [List.drop_length]; rfl) | (simp; done) | (congr 2; omega) | (congr 3; omega)) ?_)) (by repeat (first | exact Sub.nil _ | refine Sub.cons (by first | rfl | (rw [dgs_zero]; rfl) | (rw [List.drop_length]; rfl) | (simp; done) | (congr 2; omega) | (congr 3; omega)) ?_))
    · obtain rfl : ys = wl (shrN x0 x1) := wl_of hl _ (fun q hq => by
      rcases Nat.lt_or_ge q i with h | h
      · exact hy q h
      · rw [hz q (by omega), shr_lim x1 q hS hp hw4 hq, if_neg (by omega)])
      refine T.exit ?_
      refine X.then_exit (X.then_exit (X.inBlock_eq (X.then ?_)))
      refine T.seq ?_
      refine T.text [.l, .l] rfl ?_
      refine J.loadN (k := .l) trivial 5 rfl rfl agg24 (wc (shrN x0 x1)) rfl rfl rfl ?_
      refine J.store 4 rfl rfl rfl rfl (wc (shrN x0 x1)) rfl sz24 (by first | decide | exact Nat.le_refl _ | exact Nat.le_of_ble_eq_true rfl | (simp [rowN]; done) | (simp [rowN]; omega)) (by first | exact rowN_one _ _ | (simp; done) | (intro u hu; simp at hu; subst hu; rfl) | (intro u hu; simp at hu; rcases hu with rfl | rfl <;> rfl)) (by first | decide | exact Nat.zero_lt_succ _ | simp) trivial (wc (shrN x0 x1)) rfl ?_
      refine J.end ?_
      refine X.then ?_
      refine T.ret ?_
      exact X.ret1 rfl (RV.agg 4 rfl rfl agg24 (wc (shrN x0 x1)) (by rfl) (by rfl) rfl) (fun w' hw' => ⟨rfl, hw'.sub (Sub.nil _)⟩)

theorem Sar (w : World) (x0 : Nat) (x1 : Nat) :
    Calls Tryd.prog 42 [W x0, W x1].toArray w fun e w' => e = .returned (W (sarN x0 x1)) ∧ WS w [] [] w' := by
  refine calls_of_T [] 15 [] Tryd.func42 rfl Tryd.ntmps42 (by simp) (WS.refl _ _) ?_
  refine T.seq ?_
  refine T.text [.l, .l, .l] rfl ?_
  refine J.box 2 rfl rfl (wc x0) rfl rfl (fun g2 hg2 => ?_)
  refine J.box 3 rfl rfl (wc x1) rfl rfl (fun g3 hg3 => ?_)
  refine J.alloc 4 rfl zero24 [.int .u64 0, .int .u64 0, .int .u64 0, .int .u64 0] rfl rfl (fun g4 hg4 => ?_)
  refine J.end ?_
  refine X.then ?_
  refine T.seq ?_
  refine T.seq ?_
  refine T.text [.l, .l] rfl ?_
  refine J.loadN (k := .l) trivial 3 rfl rfl agg24 (wc x1) rfl rfl rfl ?_
  refine J.call0 (k := .l) trivial fok122 rfl rfl (fun w hw => We.below w _) ?_
  refine J.end ?_
  refine X.then ?_
  refine T.cond_dec rfl (fun h1 => ?_) (fun h1 => ?_)
  · skip
    refine T.seq ?_
    refine T.draw [] [(0, .q), (1, .q), (2, .q), (3, .q), (4, .q), (5, .l)] (by kernel_rfl) (by kernel_rfl) ?_ (by repeat (first | exact Sub.nil _ | refine Sub.cons (by first | rfl | (rw [dgs_zero]; rfl) | (rw [List.drop_length]; rfl) | (simp; done) | (congr 2; omega) | (congr 3; omega)) ?_))
    refine J.loadN (k := .q) trivial 2 rfl rfl agg24 (wc x0) rfl rfl rfl ?_
    refine J.loadN (k := .q) trivial 3 rfl rfl agg24 (wc x1) rfl rfl rfl ?_
    refine J.call0 (k := .q) trivial fok61 rfl rfl (fun w hw => We.Not w _) ?_
    refine J.call0 (k := .q) trivial fok60 rfl rfl (fun w hw => We.Shr w _ _) ?_
    refine J.call0 (k := .q) trivial fok61 rfl rfl (fun w hw => We.Not w _) ?_
    refine J.store 4 rfl rfl rfl rfl (wc (notN ((shrN x0 ((notN x1)))))) rfl sz24 (by first | decide | exact Nat.le_refl _ | exact Nat.le_of_ble_eq_true rfl | (simp [rowN]; done) | (simp [rowN]; omega)) (by first | exact rowN_one _ _ | (simp; done) | (intro u hu; simp at hu; subst hu; rfl) | (intro u hu; simp at hu; rcases hu with rfl | rfl <;> rfl)) (by first | decide | exact Nat.zero_lt_succ _ | simp) trivial (wc (notN ((shrN x0 ((notN x1)))))) rfl ?_
    refine J.end ?_
    refine X.then ?_
    refine T.ret ?_
    refine X.then_ret ?_
    exact X.ret1 rfl (RV.agg 4 rfl rfl agg24 (wc (notN ((shrN x0 ((notN x1)))))) (by rfl) (by rfl) rfl) (fun w' hw' => ⟨retW (by unfold sarN; rw [if_pos (by assumption)]), hw'.sub (Sub.nil _)⟩)
  · skip
    refine T.skip ?_
    refine X.then ?_
    refine T.seq ?_
    refine T.text [.l, .l, .l, .l] rfl ?_
    refine J.loadN (k := .l) trivial 2 rfl rfl agg24 (wc x0) rfl rfl rfl ?_
    refine J.loadN (k := .l) trivial 3 rfl rfl agg24 (wc x1) rfl rfl rfl ?_
    refine J.call0 (k := .l) trivial fok60 rfl rfl (fun w hw => We.Shr w _ _) ?_
    refine J.store 4 rfl rfl rfl rfl (wc (shrN x0 x1)) rfl sz24 (by first | decide | exact Nat.le_refl _ | exact Nat.le_of_ble_eq_true rfl | (simp [rowN]; done) | (simp [rowN]; omega)) (by first | exact rowN_one _ _ | (simp; done) | (intro u hu; simp at hu; subst hu; rfl) | (intro u hu; simp at hu; rcases hu with rfl | rfl <;> rfl)) (by first | decide | exact Nat.zero_lt_succ _ | simp) trivial (wc (shrN x0 x1)) rfl ?_
    refine J.end ?_
    refine X.then ?_
    refine T.ret ?_
    exact X.ret1 rfl (RV.agg 4 rfl rfl agg24 (wc (shrN x0 x1)) (by rfl) (by rfl) rfl) (fun w' hw' => ⟨retW (by unfold sarN; rw [if_neg (by assumption)]), hw'.sub (Sub.nil _)⟩)

theorem Byte (w : World) (x0 : Nat) (x1 : Nat) :
    Calls Tryd.prog 69 [W x0, W x1].toArray w fun e w' => e = .returned (W (byteN x0 x1)) ∧ WS w [] [] w' := by
  refine calls_of_T [] 19 [] Tryd.func69 rfl Tryd.ntmps69 (by simp) (WS.refl _ _) ?_
  refine T.seq ?_
  refine T.text [.l, .l, .l] rfl ?_
  refine J.box 2 rfl rfl (wc x0) rfl rfl (fun g2 hg2 => ?_)
  refine J.box 3 rfl rfl (wc x1) rfl rfl (fun g3 hg3 => ?_)
  refine J.alloc 4 rfl zero24 [.int .u64 0, .int .u64 0, .int .u64 0, .int .u64 0] rfl rfl (fun g4 hg4 => ?_)
  refine J.end ?_
  refine X.then ?_
  refine T.seq ?_
  refine T.seq ?_
  refine T.text [.l, .l, .l, .l] rfl ?_
  refine J.loadN (k := .l) trivial 2 rfl rfl agg24 (wc x0) rfl rfl rfl ?_
  refine J.build rfl rfl (W 32) (fun w => by kernel_rfl) ?_
  refine J.call0 (k := .l) trivial fok54 rfl rfl (fun w hw => Wa.Lt w _ _) ?_
  refine J.not rfl rfl (by rw [← decide_not]) ?_
  refine J.end ?_
  refine X.then ?_
  refine T.cond_dec rfl (fun h1 => ?_) (fun h1 => ?_)
  · skip
    refine T.seq ?_
    refine T.text [.l, .l] rfl ?_
    refine J.build rfl rfl (W 0) (fun w => by kernel_rfl) ?_
    refine J.store 4 rfl rfl rfl rfl (wc 0) rfl sz24 (by first | decide | exact Nat.le_refl _ | exact Nat.le_of_ble_eq_true rfl | (simp [rowN]; done) | (simp [rowN]; omega)) (by first | exact rowN_one _ _ | (simp; done) | (intro u hu; simp at hu; subst hu; rfl) | (intro u hu; simp at hu; rcases hu with rfl | rfl <;> rfl)) (by first | decide | exact Nat.zero_lt_succ _ | simp) trivial (wc 0) rfl ?_
    refine J.end ?_
    refine X.then ?_
    refine T.ret ?_
    refine X.then_ret ?_
    exact X.ret1 rfl (RV.agg 4 rfl rfl agg24 (wc 0) (by rfl) (by rfl) rfl) (fun w' hw' => ⟨retW (by unfold byteN; rw [if_neg (by omega)]), hw'.sub (Sub.nil _)⟩)
  · have hlx : lim x0 0 = x0 % 2 ^ 256 := lim_low (by omega)
    refine T.skip ?_
    refine X.then ?_
    refine T.seq ?_
    refine T.text [.l, .l, .l, .l] rfl ?_
    refine J.loadN (k := .l) trivial 3 rfl rfl agg24 (wc x1) rfl rfl rfl ?_
    refine J.call0 (k := .l) trivial fok88 rfl rfl (fun w hw => Wa.Bytes w _) ?_
    refine J.alloc 5 rfl zero39 [.int .u8 0, .int .u8 0, .int .u8 0, .int .u8 0, .int .u8 0, .int .u8 0, .int .u8 0, .int .u8 0, .int .u8 0, .int .u8 0, .int .u8 0, .int .u8 0, .int .u8 0, .int .u8 0, .int .u8 0, .int .u8 0, .int .u8 0, .int .u8 0, .int .u8 0, .int .u8 0, .int .u8 0, .int .u8 0, .int .u8 0, .int .u8 0, .int .u8 0, .int .u8 0, .int .u8 0, .int .u8 0, .int .u8 0, .int .u8 0, .int .u8 0, .int .u8 0] rfl rfl (fun g5 hg5 => ?_)
    refine J.store 5 rfl rfl rfl rfl (rowN .u8 (bytesN x1)) rfl (by rw [rowN_length, bytesN_length]; exact sz39) (by rw [rowN_length, bytesN_length]; exact Nat.le_refl _) (by first | exact rowN_one _ _ | (simp; done) | (intro u hu; simp at hu; subst hu; rfl) | (intro u hu; simp at hu; rcases hu with rfl | rfl <;> rfl)) (by rw [rowN_length, bytesN_length]; decide) trivial (rowN .u8 (bytesN x1)) (by unfold put; rw [rowN_length, bytesN_length]; exact List.append_nil _) ?_
    refine J.end ?_
    refine X.then ?_
    refine T.seq ?_
    refine T.text [.l, .l, .l, .l, .l, .l, .l] rfl ?_
    refine J.indexArr arr24 rfl rfl (by omega) (by omega) (by rfl) rfl ?_
    refine J.load1 (k := .l) trivial 2 rfl rfl one22 (by exact wc_at _ 0 (by omega)) rfl ?_
    have hl14 := lim_lt x0 0
    refine J.indexArr arr39 rfl rfl (by omega) (by omega) (by first | exact Int.toNat_natCast _ | rfl) rfl ?_
    refine J.load1 (k := .l) trivial 5 rfl rfl one5 (by exact rowN_get0 _ _ _ (by rw [bytesN_length]; omega)) rfl ?_
    refine J.as 16 (.int .u8 ((byteN x0 x1 : Nat) : Int)) rfl (by rw [hlx, bytesN_get _ _ (by omega)]; unfold byteN; rw [if_pos (by omega)]) ?_
    have hby : byteN x0 x1 < 256 := by unfold byteN; split <;> omega
    refine J.conv (by rw [Tryd.underlying5]; rfl) Tryd.underlying22 rfl rfl (by first | exact wrapu_nat' _ (by omega) | exact wrapu_nat _ | exact u64_wrap _) ?_
    refine J.build rfl rfl (.agg ([.int .u64 ((byteN x0 x1 : Nat) : Int), .int .u64 0, .int .u64 0, .int .u64 0] : List Value).toArray) (fun w => by kernel_rfl) ?_
    refine J.as 18 (W (byteN x0 x1)) rfl (W_small (by first | omega | (refine ⟨?_, ?_, ?_, ?_⟩ <;> omega))) ?_
    refine J.store 4 rfl rfl rfl rfl (wc (byteN x0 x1)) rfl sz24 (by first | decide | exact Nat.le_refl _ | exact Nat.le_of_ble_eq_true rfl | (simp [rowN]; done) | (simp [rowN]; omega)) (by first | exact rowN_one _ _ | (simp; done) | (intro u hu; simp at hu; subst hu; rfl) | (intro u hu; simp at hu; rcases hu with rfl | rfl <;> rfl)) (by first | decide | exact Nat.zero_lt_succ _ | simp) trivial (wc (byteN x0 x1)) rfl ?_
    refine J.end ?_
    refine X.then ?_
    refine T.ret ?_
    exact X.ret1 rfl (RV.agg 4 rfl rfl agg24 (wc (byteN x0 x1)) (by rfl) (by rfl) rfl) (fun w' hw' => ⟨rfl, hw'.sub (Sub.nil _)⟩)

theorem Exp (w : World) (x0 : Nat) (x1 : Nat) :
    Calls Tryd.prog 50 [W x0, W x1].toArray w fun e w' => e = .returned (W (powN x0 x1)) ∧ WS w [] [] w' := by
  refine calls_of_T [] 24 [] Tryd.func50 rfl Tryd.ntmps50 (by simp) (WS.refl _ _) ?_
  refine T.seq ?_
  refine T.text [.l, .l, .l] rfl ?_
  refine J.box 2 rfl rfl (wc x0) rfl rfl (fun g2 hg2 => ?_)
  refine J.box 3 rfl rfl (wc x1) rfl rfl (fun g3 hg3 => ?_)
  refine J.alloc 4 rfl zero24 [.int .u64 0, .int .u64 0, .int .u64 0, .int .u64 0] rfl rfl (fun g4 hg4 => ?_)
  refine J.end ?_
  refine X.then ?_
  refine T.seq ?_
  refine T.text [.l, .l, .l] rfl ?_
  refine J.build rfl rfl (W 1) (fun w => by kernel_rfl) ?_
  refine J.alloc 5 rfl zero24 [.int .u64 0, .int .u64 0, .int .u64 0, .int .u64 0] rfl rfl (fun g5 hg5 => ?_)
  refine J.store 5 rfl rfl rfl rfl (wc 1) rfl sz24 (by first | decide | exact Nat.le_refl _ | exact Nat.le_of_ble_eq_true rfl | (simp [rowN]; done) | (simp [rowN]; omega)) (by first | exact rowN_one _ _ | (simp; done) | (intro u hu; simp at hu; subst hu; rfl) | (intro u hu; simp at hu; rcases hu with rfl | rfl <;> rfl)) (by first | decide | exact Nat.zero_lt_succ _ | simp) trivial (wc 1) rfl ?_
  refine J.end ?_
  refine X.then ?_
  refine T.seq ?_
  refine T.block ?_
  refine T.loop (ι := Nat × Nat × Nat) (fun ((a, p, r) : Nat × Nat × Nat) => r * a ^ (p % 2 ^ 256) % 2 ^ 256 = powN x0 x1) (fun ((a, p, r) : Nat × Nat × Nat) => [(0, W x0), (1, W x1), (2, .pointer (some ⟨g2, 0, none⟩)), (3, .pointer (some ⟨g3, 0, none⟩)), (4, .pointer (some ⟨g4, 0, none⟩)), (5, .pointer (some ⟨g5, 0, none⟩))]) (fun ((a, p, r) : Nat × Nat × Nat) => [(4, ⟨some g4, 24, [.int .u64 0, .int .u64 0, .int .u64 0, .int .u64 0]⟩), (2, ⟨some g2, 24, wc a⟩), (3, ⟨some g3, 24, wc p⟩), (5, ⟨some g5, 24, wc r⟩)]) (fun ((a, p, r) : Nat × Nat × Nat) => p % 2 ^ 256) ⟨x0, x1, 1⟩ (by dsimp only; rw [Nat.one_mul]; rfl) (by repeat (first | exact Sub.nil _ | refine Sub.cons (by first | rfl | (rw [dgs_zero]; rfl) | (rw [List.drop_length]; rfl) | (simp; done) | (congr 2; omega) | (congr 3; omega)) ?_)) (by repeat (first | exact Sub.nil _ | refine Sub.cons (by first | rfl | (rw [dgs_zero]; rfl) | (rw [List.drop_length]; rfl) | (simp; done) | (congr 2; omega) | (congr 3; omega)) ?_)) ?_
  rintro ⟨a, p, r⟩ hr
  try dsimp only at *
  refine T.seq ?_
  refine T.seq ?_
  refine T.text [.l, .l, .l] rfl ?_
  refine J.loadN (k := .l) trivial 3 rfl rfl agg24 (wc p) rfl rfl rfl ?_
  refine J.call0 (k := .l) trivial fok81 rfl rfl (fun w hw => Wa.IsZero w _) ?_
  refine J.not rfl rfl (by rw [← decide_not]) ?_
  refine J.end ?_
  refine X.then ?_
  refine T.cond_dec rfl (fun h1 => ?_) (fun h1 => ?_)
  · have hpp : p % 2 ^ 256 / 2 < p % 2 ^ 256 := by omega
    have hpo : lim p 0 % 2 = p % 2 ^ 256 % 2 := by unfold lim; omega
    refine T.skip ?_
    refine X.then ?_
    refine T.block ?_
    refine T.seq ?_
    refine T.seq ?_
    refine T.text [.l, .l, .l, .l] rfl ?_
    refine J.indexArr arr24 rfl rfl (by omega) (by omega) (by rfl) rfl ?_
    refine J.load1 (k := .l) trivial 3 rfl rfl one22 (by exact wc_at _ 0 (by omega)) rfl ?_
    have hl11 := lim_lt p 0
    refine J.band rfl rfl rfl (by exact u64_and1 _ hl11) ?_
    refine J.eql rfl rfl rfl rfl ?_
    refine J.end ?_
    refine X.then ?_
    refine T.cond_dec rfl (fun h2 => ?_) (fun h2 => ?_)
    · have hodd : p % 2 ^ 256 % 2 = 1 := by omega
      refine T.text [.l, .l, .l, .l] rfl ?_
      refine J.loadN (k := .l) trivial 5 rfl rfl agg24 (wc r) rfl rfl rfl ?_
      refine J.loadN (k := .l) trivial 2 rfl rfl agg24 (wc a) rfl rfl rfl ?_
      refine J.call0 (k := .l) trivial fok27 rfl rfl (fun w hw => Wb.Mul w _ _) ?_
      refine J.store 5 rfl rfl rfl rfl (wc (r * a)) rfl sz24 (by first | decide | exact Nat.le_refl _ | exact Nat.le_of_ble_eq_true rfl | (simp [rowN]; done) | (simp [rowN]; omega)) (by first | exact rowN_one _ _ | (simp; done) | (intro u hu; simp at hu; subst hu; rfl) | (intro u hu; simp at hu; rcases hu with rfl | rfl <;> rfl)) (by first | decide | exact Nat.zero_lt_succ _ | simp) trivial (wc (r * a)) rfl ?_
      refine J.end ?_
      refine X.then ?_
      refine T.seq ?_
      refine T.text [.l, .l, .l, .l] rfl ?_
      refine J.loadN (k := .l) trivial 2 rfl rfl agg24 (wc a) rfl rfl rfl ?_
      refine J.loadN (k := .l) trivial 2 rfl rfl agg24 (wc a) rfl rfl rfl ?_
      refine J.call0 (k := .l) trivial fok27 rfl rfl (fun w hw => Wb.Mul w _ _) ?_
      refine J.store 2 rfl rfl rfl rfl (wc (a * a)) rfl sz24 (by first | decide | exact Nat.le_refl _ | exact Nat.le_of_ble_eq_true rfl | (simp [rowN]; done) | (simp [rowN]; omega)) (by first | exact rowN_one _ _ | (simp; done) | (intro u hu; simp at hu; subst hu; rfl) | (intro u hu; simp at hu; rcases hu with rfl | rfl <;> rfl)) (by first | decide | exact Nat.zero_lt_succ _ | simp) trivial (wc (a * a)) rfl ?_
      refine J.end ?_
      refine X.then ?_
      refine T.text [.l, .l, .l, .l] rfl ?_
      refine J.build rfl rfl (W 1) (fun w => by kernel_rfl) ?_
      refine J.loadN (k := .l) trivial 3 rfl rfl agg24 (wc p) rfl rfl rfl ?_
      refine J.call0 (k := .l) trivial fok60 rfl rfl (fun w hw => We.Shr w _ _) ?_
      refine J.store 3 rfl rfl rfl rfl (wc (shrN 1 p)) rfl sz24 (by first | decide | exact Nat.le_refl _ | exact Nat.le_of_ble_eq_true rfl | (simp [rowN]; done) | (simp [rowN]; omega)) (by first | exact rowN_one _ _ | (simp; done) | (intro u hu; simp at hu; subst hu; rfl) | (intro u hu; simp at hu; rcases hu with rfl | rfl <;> rfl)) (by first | decide | exact Nat.zero_lt_succ _ | simp) trivial (wc (shrN 1 p)) rfl ?_
      refine J.end ?_
      refine X.inBlock ?_
      have hsh := shrN_one' p
      exact X.round ⟨(a * a), (shrN 1 p), (r * a)⟩ (by dsimp only; rw [hsh, ← hr, pow_low' a (p % 2 ^ 256) r]; first | rw [if_pos (by assumption)] | rw [if_neg (by assumption)]) (by first | omega | (dsimp only; omega)) (by repeat (first | exact Sub.nil _ | refine Sub.cons (by first | rfl | (rw [dgs_zero]; rfl) | (rw [List.drop_length]; rfl) | (simp; done) | (congr 2; omega) | (congr 3; omega)) ?_)) (by repeat (first | exact Sub.nil _ | refine Sub.cons (by first | rfl | (rw [dgs_zero]; rfl) | (rw [List.drop_length]; rfl) | (simp; done) | (congr 2; omega) | (congr 3; omega)) ?_))
    · have hodd : ¬ p % 2 ^ 256 % 2 = 1 := by omega
      refine T.skip ?_
      refine X.then ?_
      refine T.seq ?_
      refine T.text [.l, .l, .l, .l] rfl ?_
      refine J.loadN (k := .l) trivial 2 rfl rfl agg24 (wc a) rfl rfl rfl ?_
      refine J.loadN (k := .l) trivial 2 rfl rfl agg24 (wc a) rfl rfl rfl ?_
      refine J.call0 (k := .l) trivial fok27 rfl rfl (fun w hw => Wb.Mul w _ _) ?_
      refine J.store 2 rfl rfl rfl rfl (wc (a * a)) rfl sz24 (by first | decide | exact Nat.le_refl _ | exact Nat.le_of_ble_eq_true rfl | (simp [rowN]; done) | (simp [rowN]; omega)) (by first | exact rowN_one _ _ | (simp; done) | (intro u hu; simp at hu; subst hu; rfl) | (intro u hu; simp at hu; rcases hu with rfl | rfl <;> rfl)) (by first | decide | exact Nat.zero_lt_succ _ | simp) trivial (wc (a * a)) rfl ?_
      refine J.end ?_
      refine X.then ?_
      refine T.text [.l, .l, .l, .l] rfl ?_
      refine J.build rfl rfl (W 1) (fun w => by kernel_rfl) ?_
      refine J.loadN (k := .l) trivial 3 rfl rfl agg24 (wc p) rfl rfl rfl ?_
      refine J.call0 (k := .l) trivial fok60 rfl rfl (fun w hw => We.Shr w _ _) ?_
      refine J.store 3 rfl rfl rfl rfl (wc (shrN 1 p)) rfl sz24 (by first | decide | exact Nat.le_refl _ | exact Nat.le_of_ble_eq_true rfl | (simp [rowN]; done) | (simp [rowN]; omega)) (by first | exact rowN_one _ _ | (simp; done) | (intro u hu; simp at hu; subst hu; rfl) | (intro u hu; simp at hu; rcases hu with rfl | rfl <;> rfl)) (by first | decide | exact Nat.zero_lt_succ _ | simp) trivial (wc (shrN 1 p)) rfl ?_
      refine J.end ?_
      refine X.inBlock ?_
      have hsh := shrN_one' p
      exact X.round ⟨(a * a), (shrN 1 p), (r)⟩ (by dsimp only; rw [hsh, ← hr, pow_low' a (p % 2 ^ 256) r]; first | rw [if_pos (by assumption)] | rw [if_neg (by assumption)]) (by first | omega | (dsimp only; omega)) (by repeat (first | exact Sub.nil _ | refine Sub.cons (by first | rfl | (rw [dgs_zero]; rfl) | (rw [List.drop_length]; rfl) | (simp; done) | (congr 2; omega) | (congr 3; omega)) ?_)) (by repeat (first | exact Sub.nil _ | refine Sub.cons (by first | rfl | (rw [dgs_zero]; rfl) | (rw [List.drop_length]; rfl) | (simp; done) | (congr 2; omega) | (congr 3; omega)) ?_))
  · skip
    refine T.exit ?_
    refine X.then_exit (X.then_exit (X.inBlock_eq (X.then ?_)))
    refine T.seq ?_
    refine T.text [.l, .l] rfl ?_
    refine J.loadN (k := .l) trivial 5 rfl rfl agg24 (wc r) rfl rfl rfl ?_
    refine J.store 4 rfl rfl rfl rfl (wc r) rfl sz24 (by first | decide | exact Nat.le_refl _ | exact Nat.le_of_ble_eq_true rfl | (simp [rowN]; done) | (simp [rowN]; omega)) (by first | exact rowN_one _ _ | (simp; done) | (intro u hu; simp at hu; subst hu; rfl) | (intro u hu; simp at hu; rcases hu with rfl | rfl <;> rfl)) (by first | decide | exact Nat.zero_lt_succ _ | simp) trivial (wc r) rfl ?_
    refine J.end ?_
    refine X.then ?_
    refine T.ret ?_
    exact X.ret1 rfl (RV.agg 4 rfl rfl agg24 (wc r) (by rfl) (by rfl) rfl) (fun w' hw' => ⟨retW (by rw [← hr, show p % 2 ^ 256 = 0 by omega, Nat.pow_zero, Nat.mul_one, Nat.mod_mod]), hw'.sub (Sub.nil _)⟩)

theorem SignExtend (w : World) (x0 : Nat) (x1 : Nat) :
    Calls Tryd.prog 44 [W x0, W x1].toArray w fun e w' => e = .returned (W (sxN x0 x1)) ∧ WS w [] [] w' := by
  refine calls_of_T [] 21 [] Tryd.func44 rfl Tryd.ntmps44 (by simp) (WS.refl _ _) ?_
  refine T.seq ?_
  refine T.text [.l, .l, .l] rfl ?_
  refine J.box 2 rfl rfl (wc x0) rfl rfl (fun g2 hg2 => ?_)
  refine J.box 3 rfl rfl (wc x1) rfl rfl (fun g3 hg3 => ?_)
  refine J.alloc 4 rfl zero24 [.int .u64 0, .int .u64 0, .int .u64 0, .int .u64 0] rfl rfl (fun g4 hg4 => ?_)
  refine J.end ?_
  refine X.then ?_
  refine T.seq ?_
  refine T.seq ?_
  refine T.text [.l, .l, .l, .l] rfl ?_
  refine J.loadN (k := .l) trivial 2 rfl rfl agg24 (wc x0) rfl rfl rfl ?_
  refine J.build rfl rfl (W 31) (fun w => by kernel_rfl) ?_
  refine J.call0 (k := .l) trivial fok54 rfl rfl (fun w hw => Wa.Lt w _ _) ?_
  refine J.not rfl rfl (by rw [← decide_not]) ?_
  refine J.end ?_
  refine X.then ?_
  refine T.cond_dec rfl (fun h1 => ?_) (fun h1 => ?_)
  · skip
    refine T.seq ?_
    refine T.text [.l, .l] rfl ?_
    refine J.loadN (k := .l) trivial 3 rfl rfl agg24 (wc x1) rfl rfl rfl ?_
    refine J.store 4 rfl rfl rfl rfl (wc x1) rfl sz24 (by first | decide | exact Nat.le_refl _ | exact Nat.le_of_ble_eq_true rfl | (simp [rowN]; done) | (simp [rowN]; omega)) (by first | exact rowN_one _ _ | (simp; done) | (intro u hu; simp at hu; subst hu; rfl) | (intro u hu; simp at hu; rcases hu with rfl | rfl <;> rfl)) (by first | decide | exact Nat.zero_lt_succ _ | simp) trivial (wc x1) rfl ?_
    refine J.end ?_
    refine X.then ?_
    refine T.ret ?_
    refine X.then_ret ?_
    exact X.ret1 rfl (RV.agg 4 rfl rfl agg24 (wc x1) (by rfl) (by rfl) rfl) (fun w' hw' => ⟨retW (by unfold sxN; rw [if_neg (by omega)]), hw'.sub (Sub.nil _)⟩)
  · have hlx : lim x0 0 = x0 % 2 ^ 256 := lim_low (by omega)
    refine T.skip ?_
    refine X.then ?_
    refine T.seq ?_
    refine T.text [.l, .l, .l, .l, .l, .l, .l] rfl ?_
    refine J.indexArr arr24 rfl rfl (by omega) (by omega) (by rfl) rfl ?_
    refine J.load1 (k := .l) trivial 2 rfl rfl one22 (by exact wc_at _ 0 (by omega)) rfl ?_
    have hl12 := lim_lt x0 0
    refine J.mul rfl rfl rfl (by first | exact mulu_nat 8 _ (by omega) | exact u64_ok _ (by omega) | exact u64_wrap _) ?_
    refine J.sub' rfl rfl rfl (by first | exact subu_nat 248 _ (by omega) | exact u64_ok _ (by omega) | exact u64_wrap _) ?_
    refine J.build rfl rfl (.agg ([.int .u64 ((248 - 8 * lim x0 0 : Nat) : Int), .int .u64 0, .int .u64 0, .int .u64 0] : List Value).toArray) (fun w => by kernel_rfl) ?_
    refine J.as 15 (W (248 - 8 * lim x0 0)) rfl (W_small (by first | omega | (refine ⟨?_, ?_, ?_, ?_⟩ <;> omega))) ?_
    refine J.alloc 5 rfl zero24 [.int .u64 0, .int .u64 0, .int .u64 0, .int .u64 0] rfl rfl (fun g5 hg5 => ?_)
    refine J.store 5 rfl rfl rfl rfl (wc (248 - 8 * lim x0 0)) rfl sz24 (by first | decide | exact Nat.le_refl _ | exact Nat.le_of_ble_eq_true rfl | (simp [rowN]; done) | (simp [rowN]; omega)) (by first | exact rowN_one _ _ | (simp; done) | (intro u hu; simp at hu; subst hu; rfl) | (intro u hu; simp at hu; rcases hu with rfl | rfl <;> rfl)) (by first | decide | exact Nat.zero_lt_succ _ | simp) trivial (wc (248 - 8 * lim x0 0)) rfl ?_
    refine J.end ?_
    refine X.then ?_
    refine T.seq ?_
    refine T.draw [] [(0, .q), (1, .q), (2, .q), (3, .q), (4, .q), (5, .l)] (by kernel_rfl) (by kernel_rfl) ?_ (by repeat (first | exact Sub.nil _ | refine Sub.cons (by first | rfl | (rw [dgs_zero]; rfl) | (rw [List.drop_length]; rfl) | (simp; done) | (congr 2; omega) | (congr 3; omega)) ?_))
    refine J.loadN (k := .q) trivial 5 rfl rfl agg24 (wc (248 - 8 * lim x0 0)) rfl rfl rfl ?_
    refine J.loadN (k := .q) trivial 5 rfl rfl agg24 (wc (248 - 8 * lim x0 0)) rfl rfl rfl ?_
    refine J.loadN (k := .q) trivial 3 rfl rfl agg24 (wc x1) rfl rfl rfl ?_
    refine J.call0 (k := .q) trivial fok59 rfl rfl (fun w hw => We.Shl w _ _) ?_
    refine J.call0 (k := .q) trivial fok42 rfl rfl (fun w hw => We.Sar w _ _) ?_
    refine J.store 4 rfl rfl rfl rfl (wc (sarN ((248 - 8 * lim x0 0)) ((shlN ((248 - 8 * lim x0 0)) x1)))) rfl sz24 (by first | decide | exact Nat.le_refl _ | exact Nat.le_of_ble_eq_true rfl | (simp [rowN]; done) | (simp [rowN]; omega)) (by first | exact rowN_one _ _ | (simp; done) | (intro u hu; simp at hu; subst hu; rfl) | (intro u hu; simp at hu; rcases hu with rfl | rfl <;> rfl)) (by first | decide | exact Nat.zero_lt_succ _ | simp) trivial (wc (sarN ((248 - 8 * lim x0 0)) ((shlN ((248 - 8 * lim x0 0)) x1)))) rfl ?_
    refine J.end ?_
    refine X.then ?_
    refine T.ret ?_
    exact X.ret1 rfl (RV.agg 4 rfl rfl agg24 (wc (sarN ((248 - 8 * lim x0 0)) ((shlN ((248 - 8 * lim x0 0)) x1)))) (by rfl) (by rfl) rfl) (fun w' hw' => ⟨retW (by unfold sxN; rw [if_pos (by omega), hlx]), hw'.sub (Sub.nil _)⟩)

theorem Clz (w : World) (x0 : Nat) :
    Calls Tryd.prog 73 [W x0].toArray w fun e w' => e = .returned (W (256 - bitLen (x0 % 2 ^ 256))) ∧ WS w [] [] w' := by
  refine calls_of_T [] 7 [] Tryd.func73 rfl Tryd.ntmps73 (by simp) (WS.refl _ _) ?_
  refine T.seq ?_
  refine T.text [.l, .l] rfl ?_
  refine J.box 1 rfl rfl (wc x0) rfl rfl (fun g1 hg1 => ?_)
  refine J.alloc 2 rfl zero24 [.int .u64 0, .int .u64 0, .int .u64 0, .int .u64 0] rfl rfl (fun g2 hg2 => ?_)
  refine J.end ?_
  refine X.then ?_
  refine T.seq ?_
  refine T.text [.l, .l, .l, .l, .l] rfl ?_
  refine J.loadN (k := .l) trivial 1 rfl rfl agg24 (wc x0) rfl rfl rfl ?_
  refine J.call0 (k := .l) trivial fok134 rfl rfl (fun w hw => Wa.ahead w _) ?_
  refine J.conv (by rw [Tryd.underlying3]; rfl) Tryd.underlying22 rfl rfl (by first | exact wrapu_nat' _ (by omega) | exact wrapu_nat _ | exact u64_wrap _) ?_
  refine J.build rfl rfl (.agg ([.int .u64 ((256 - bitLen (x0 % 2 ^ 256) : Nat) : Int), .int .u64 0, .int .u64 0, .int .u64 0] : List Value).toArray) (fun w => by kernel_rfl) ?_
  refine J.as 6 (W (256 - bitLen (x0 % 2 ^ 256))) rfl (W_small (by first | omega | (refine ⟨?_, ?_, ?_, ?_⟩ <;> omega))) ?_
  refine J.store 2 rfl rfl rfl rfl (wc (256 - bitLen (x0 % 2 ^ 256))) rfl sz24 (by first | decide | exact Nat.le_refl _ | exact Nat.le_of_ble_eq_true rfl | (simp [rowN]; done) | (simp [rowN]; omega)) (by first | exact rowN_one _ _ | (simp; done) | (intro u hu; simp at hu; subst hu; rfl) | (intro u hu; simp at hu; rcases hu with rfl | rfl <;> rfl)) (by first | decide | exact Nat.zero_lt_succ _ | simp) trivial (wc (256 - bitLen (x0 % 2 ^ 256))) rfl ?_
  refine J.end ?_
  refine X.then ?_
  refine T.ret ?_
  exact X.ret1 rfl (RV.agg 2 rfl rfl agg24 (wc (256 - bitLen (x0 % 2 ^ 256))) (by rfl) (by rfl) rfl) (fun w' hw' => ⟨rfl, hw'.sub (Sub.nil _)⟩)

theorem truth (w : World) (p : Prop) [Decidable p] :
    Calls Tryd.prog 156 [.bool (decide p)].toArray w fun e w' => e = .returned (W (if p then 1 else 0)) ∧ WS w [] [] w' := by
  refine calls_of_T [] 6 [] Tryd.func156 rfl Tryd.ntmps156 (by simp) (WS.refl _ _) ?_
  refine T.seq ?_
  refine T.text [.l] rfl ?_
  refine J.alloc 2 rfl zero24 [.int .u64 0, .int .u64 0, .int .u64 0, .int .u64 0] rfl rfl (fun g2 hg2 => ?_)
  refine J.end ?_
  refine X.then ?_
  refine T.seq ?_
  refine T.seq ?_
  refine T.text [.l] rfl ?_
  refine J.move rfl rfl ?_
  refine J.end ?_
  refine X.then ?_
  refine T.cond_dec rfl (fun h1 => ?_) (fun h1 => ?_)
  · skip
    refine T.seq ?_
    refine T.text [.l, .l] rfl ?_
    refine J.build rfl rfl (W 1) (fun w => by kernel_rfl) ?_
    refine J.store 2 rfl rfl rfl rfl (wc 1) rfl sz24 (by first | decide | exact Nat.le_refl _ | exact Nat.le_of_ble_eq_true rfl | (simp [rowN]; done) | (simp [rowN]; omega)) (by first | exact rowN_one _ _ | (simp; done) | (intro u hu; simp at hu; subst hu; rfl) | (intro u hu; simp at hu; rcases hu with rfl | rfl <;> rfl)) (by first | decide | exact Nat.zero_lt_succ _ | simp) trivial (wc 1) rfl ?_
    refine J.end ?_
    refine X.then ?_
    refine T.ret ?_
    refine X.then_ret ?_
    exact X.ret1 rfl (RV.agg 2 rfl rfl agg24 (wc 1) (by rfl) (by rfl) rfl) (fun w' hw' => ⟨by rw [if_pos (by assumption)], hw'.sub (Sub.nil _)⟩)
  · skip
    refine T.skip ?_
    refine X.then ?_
    refine T.seq ?_
    refine T.text [.l, .l] rfl ?_
    refine J.build rfl rfl (W 0) (fun w => by kernel_rfl) ?_
    refine J.store 2 rfl rfl rfl rfl (wc 0) rfl sz24 (by first | decide | exact Nat.le_refl _ | exact Nat.le_of_ble_eq_true rfl | (simp [rowN]; done) | (simp [rowN]; omega)) (by first | exact rowN_one _ _ | (simp; done) | (intro u hu; simp at hu; subst hu; rfl) | (intro u hu; simp at hu; rcases hu with rfl | rfl <;> rfl)) (by first | decide | exact Nat.zero_lt_succ _ | simp) trivial (wc 0) rfl ?_
    refine J.end ?_
    refine X.then ?_
    refine T.ret ?_
    exact X.ret1 rfl (RV.agg 2 rfl rfl agg24 (wc 0) (by rfl) (by rfl) rfl) (fun w' hw' => ⟨by rw [if_neg (by assumption)], hw'.sub (Sub.nil _)⟩)

theorem SLt (w : World) (x0 : Nat) (x1 : Nat) :
    Calls Tryd.prog 38 [W x0, W x1].toArray w fun e w' => e = .returned (.bool (decide (sltP x0 x1))) ∧ WS w [] [] w' := by
  refine calls_of_T [] 15 [] Tryd.func38 rfl Tryd.ntmps38 (by simp) (WS.refl _ _) ?_
  refine T.seq ?_
  refine T.text [.l, .l, .l] rfl ?_
  refine J.box 2 rfl rfl (wc x0) rfl rfl (fun g2 hg2 => ?_)
  refine J.box 3 rfl rfl (wc x1) rfl rfl (fun g3 hg3 => ?_)
  refine J.assign rfl rfl ?_
  refine J.end ?_
  refine X.then ?_
  refine T.seq ?_
  refine T.seq ?_
  refine T.draw [] [(0, .q), (1, .q), (2, .q), (3, .q), (4, .g)] (by kernel_rfl) (by kernel_rfl) ?_ (by repeat (first | exact Sub.nil _ | refine Sub.cons (by first | rfl | (rw [dgs_zero]; rfl) | (rw [List.drop_length]; rfl) | (simp; done) | (congr 2; omega) | (congr 3; omega)) ?_))
  refine J.loadN (k := .q) trivial 2 rfl rfl agg24 (wc x0) rfl rfl rfl ?_
  refine J.call0 (k := .q) trivial fok122 rfl rfl (fun w hw => We.below w _) ?_
  refine J.loadN (k := .q) trivial 3 rfl rfl agg24 (wc x1) rfl rfl rfl ?_
  refine J.call0 (k := .q) trivial fok122 rfl rfl (fun w hw => We.below w _) ?_
  refine J.neqB Tryd.underlying4 rfl rfl rfl (by exact neqB_dec _ _) ?_
  refine J.end ?_
  refine X.then ?_
  refine T.cond_dec rfl (fun h1 => ?_) (fun h1 => ?_)
  · skip
    refine T.seq ?_
    refine T.text [.l, .l, .l] rfl ?_
    refine J.loadN (k := .l) trivial 2 rfl rfl agg24 (wc x0) rfl rfl rfl ?_
    refine J.call0 (k := .l) trivial fok122 rfl rfl (fun w hw => We.below w _) ?_
    refine J.assign rfl rfl ?_
    refine J.end ?_
    refine X.then ?_
    refine T.ret ?_
    refine X.then_ret ?_
    exact X.ret1 rfl (RV.tmp rfl) (fun w' hw' => ⟨by congr 2; exact decide_eq_decide.2 (by unfold sltP; rw [if_pos (by assumption)]), hw'.sub (Sub.nil _)⟩)
  · skip
    refine T.skip ?_
    refine X.then ?_
    refine T.seq ?_
    refine T.text [.l, .l, .l, .l] rfl ?_
    refine J.loadN (k := .l) trivial 2 rfl rfl agg24 (wc x0) rfl rfl rfl ?_
    refine J.loadN (k := .l) trivial 3 rfl rfl agg24 (wc x1) rfl rfl rfl ?_
    refine J.call0 (k := .l) trivial fok54 rfl rfl (fun w hw => Wa.Lt w _ _) ?_
    refine J.assign rfl rfl ?_
    refine J.end ?_
    refine X.then ?_
    refine T.ret ?_
    exact X.ret1 rfl (RV.tmp rfl) (fun w' hw' => ⟨by congr 2; exact decide_eq_decide.2 (by unfold sltP; rw [if_neg (by assumption)]), hw'.sub (Sub.nil _)⟩)

theorem SGt (w : World) (x0 : Nat) (x1 : Nat) :
    Calls Tryd.prog 40 [W x0, W x1].toArray w fun e w' => e = .returned (.bool (decide (sltP x1 x0))) ∧ WS w [] [] w' := by
  refine calls_of_T [] 8 [] Tryd.func40 rfl Tryd.ntmps40 (by simp) (WS.refl _ _) ?_
  refine T.seq ?_
  refine T.text [.l, .l, .l] rfl ?_
  refine J.box 2 rfl rfl (wc x0) rfl rfl (fun g2 hg2 => ?_)
  refine J.box 3 rfl rfl (wc x1) rfl rfl (fun g3 hg3 => ?_)
  refine J.assign rfl rfl ?_
  refine J.end ?_
  refine X.then ?_
  refine T.seq ?_
  refine T.text [.l, .l, .l, .l] rfl ?_
  refine J.loadN (k := .l) trivial 3 rfl rfl agg24 (wc x1) rfl rfl rfl ?_
  refine J.loadN (k := .l) trivial 2 rfl rfl agg24 (wc x0) rfl rfl rfl ?_
  refine J.call0 (k := .l) trivial fok38 rfl rfl (fun w hw => We.SLt w _ _) ?_
  refine J.assign rfl rfl ?_
  refine J.end ?_
  refine X.then ?_
  refine T.ret ?_
  exact X.ret1 rfl (RV.tmp rfl) (fun w' hw' => ⟨rfl, hw'.sub (Sub.nil _)⟩)

theorem Eq (w : World) (x0 : Nat) (x1 : Nat) :
    Calls Tryd.prog 79 [W x0, W x1].toArray w fun e w' => e = .returned (.bool (decide (x0 % 2 ^ 256 = x1 % 2 ^ 256))) ∧ WS w [] [] w' := by
  refine calls_of_T [] 8 [] Tryd.func79 rfl Tryd.ntmps79 (by simp) (WS.refl _ _) ?_
  refine T.seq ?_
  refine T.text [.l, .l, .l] rfl ?_
  refine J.box 2 rfl rfl (wc x0) rfl rfl (fun g2 hg2 => ?_)
  refine J.box 3 rfl rfl (wc x1) rfl rfl (fun g3 hg3 => ?_)
  refine J.assign rfl rfl ?_
  refine J.end ?_
  refine X.then ?_
  refine T.seq ?_
  refine T.text [.l, .l, .l, .l] rfl ?_
  refine J.loadN (k := .l) trivial 2 rfl rfl agg24 (wc x0) rfl rfl rfl ?_
  refine J.loadN (k := .l) trivial 3 rfl rfl agg24 (wc x1) rfl rfl rfl ?_
  refine J.eqW eqw24 rfl rfl rfl ?_
  refine J.assign rfl rfl ?_
  refine J.end ?_
  refine X.then ?_
  refine T.ret ?_
  exact X.ret1 rfl (RV.tmp rfl) (fun w' hw' => ⟨rfl, hw'.sub (Sub.nil _)⟩)
end Go.Proofs.YtegociefcfcihaaDoor.We
set_option linter.unusedVariables false
set_option maxRecDepth 20000
namespace Go.Proofs.YtegociefcfcihaaDoor.Wg
open Go Go.Fw

theorem sz39 : SizeT Tryd.prog 39 32 := (by unfold SizeT; kernel_rfl)
theorem zero8 : ZeroT Tryd.prog 67 (.agg (rowN .u64 (lg 0)).toArray) := (by unfold ZeroT; kernel_rfl)
theorem one25 : OneT Tryd.prog 25 := ⟨⟨_, Tryd.underlying25, rfl⟩, by kernel_rfl⟩
theorem one27 : OneT Tryd.prog 27 := ⟨⟨_, Tryd.underlying27, rfl⟩, by kernel_rfl⟩
theorem fok153 : FnOk Tryd.prog 153 := FnOk.mk' Tryd.func153 (by kernel_rfl) rfl
theorem fok23 : FnOk Tryd.prog 23 := FnOk.mk' Tryd.func23 (by kernel_rfl) rfl
theorem fok27 : FnOk Tryd.prog 27 := FnOk.mk' Tryd.func27 (by kernel_rfl) rfl
theorem fok25 : FnOk Tryd.prog 25 := FnOk.mk' Tryd.func25 (by kernel_rfl) rfl
theorem fok29 : FnOk Tryd.prog 29 := FnOk.mk' Tryd.func29 (by kernel_rfl) rfl
theorem fok34 : FnOk Tryd.prog 34 := FnOk.mk' Tryd.func34 (by kernel_rfl) rfl
theorem fok31 : FnOk Tryd.prog 31 := FnOk.mk' Tryd.func31 (by kernel_rfl) rfl
theorem fok36 : FnOk Tryd.prog 36 := FnOk.mk' Tryd.func36 (by kernel_rfl) rfl
theorem fok46 : FnOk Tryd.prog 46 := FnOk.mk' Tryd.func46 (by kernel_rfl) rfl
theorem fok48 : FnOk Tryd.prog 48 := FnOk.mk' Tryd.func48 (by kernel_rfl) rfl
theorem fok50 : FnOk Tryd.prog 50 := FnOk.mk' Tryd.func50 (by kernel_rfl) rfl
theorem fok44 : FnOk Tryd.prog 44 := FnOk.mk' Tryd.func44 (by kernel_rfl) rfl
theorem fok155 : FnOk Tryd.prog 155 := FnOk.mk' Tryd.func155 (by kernel_rfl) rfl
theorem fok54 : FnOk Tryd.prog 54 := FnOk.mk' Tryd.func54 (by kernel_rfl) rfl
theorem fok55 : FnOk Tryd.prog 55 := FnOk.mk' Tryd.func55 (by kernel_rfl) rfl
theorem fok38 : FnOk Tryd.prog 38 := FnOk.mk' Tryd.func38 (by kernel_rfl) rfl
theorem fok40 : FnOk Tryd.prog 40 := FnOk.mk' Tryd.func40 (by kernel_rfl) rfl
theorem fok79 : FnOk Tryd.prog 79 := FnOk.mk' Tryd.func79 (by kernel_rfl) rfl
theorem fok157 : FnOk Tryd.prog 157 := FnOk.mk' Tryd.func157 (by kernel_rfl) rfl
theorem fok62 : FnOk Tryd.prog 62 := FnOk.mk' Tryd.func62 (by kernel_rfl) rfl
theorem fok64 : FnOk Tryd.prog 64 := FnOk.mk' Tryd.func64 (by kernel_rfl) rfl
theorem fok66 : FnOk Tryd.prog 66 := FnOk.mk' Tryd.func66 (by kernel_rfl) rfl
theorem fok158 : FnOk Tryd.prog 158 := FnOk.mk' Tryd.func158 (by kernel_rfl) rfl
theorem fok69 : FnOk Tryd.prog 69 := FnOk.mk' Tryd.func69 (by kernel_rfl) rfl
theorem fok59 : FnOk Tryd.prog 59 := FnOk.mk' Tryd.func59 (by kernel_rfl) rfl
theorem fok60 : FnOk Tryd.prog 60 := FnOk.mk' Tryd.func60 (by kernel_rfl) rfl
theorem fok42 : FnOk Tryd.prog 42 := FnOk.mk' Tryd.func42 (by kernel_rfl) rfl
theorem fok159 : FnOk Tryd.prog 159 := FnOk.mk' Tryd.func159 (by kernel_rfl) rfl
theorem func98T : FuncT Tryd.prog 98 := ⟨_, _, _, Tryd.underlying98⟩
theorem fok148 : FnOk Tryd.prog 148 := FnOk.mk' Tryd.func148 (by kernel_rfl) rfl
theorem zero24 : ZeroT Tryd.prog 24 (.agg ([.int .u64 0, .int .u64 0, .int .u64 0, .int .u64 0]).toArray) := (by unfold ZeroT; kernel_rfl)
theorem agg24 : AggT Tryd.prog 24 4 := ⟨⟨_, Tryd.underlying24, rfl⟩, by kernel_rfl⟩
theorem sz24 : SizeT Tryd.prog 24 4 := (by unfold SizeT; kernel_rfl)
theorem fok156 : FnOk Tryd.prog 156 := FnOk.mk' Tryd.func156 (by kernel_rfl) rfl
theorem fok81 : FnOk Tryd.prog 81 := FnOk.mk' Tryd.func81 (by kernel_rfl) rfl
theorem fok61 : FnOk Tryd.prog 61 := FnOk.mk' Tryd.func61 (by kernel_rfl) rfl
theorem fok73 : FnOk Tryd.prog 73 := FnOk.mk' Tryd.func73 (by kernel_rfl) rfl
theorem zero99 : ZeroT Tryd.prog 99 (.agg ([.nilFunc, .nilFunc, .nilFunc, .nilFunc, .nilFunc, .nilFunc, .nilFunc, .nilFunc, .nilFunc, .nilFunc, .nilFunc, .nilFunc, .nilFunc, .nilFunc, .nilFunc, .nilFunc, .nilFunc, .nilFunc, .nilFunc, .nilFunc, .nilFunc, .nilFunc, .nilFunc, .nilFunc, .nilFunc, .nilFunc, .nilFunc, .nilFunc, .nilFunc, .nilFunc, .nilFunc]).toArray) := (by unfold ZeroT; kernel_rfl)
theorem fok152 : FnOk Tryd.prog 152 := FnOk.mk' Tryd.func152 (by kernel_rfl) rfl
theorem fok154 : FnOk Tryd.prog 154 := FnOk.mk' Tryd.func154 (by kernel_rfl) rfl
theorem sz99 : SizeT Tryd.prog 99 31 := (by unfold SizeT; kernel_rfl)
theorem agg99 : AggT Tryd.prog 99 31 := ⟨⟨_, Tryd.underlying99, rfl⟩, by kernel_rfl⟩

theorem two1 (w : World) (a b c g f : Nat) (S : Nat → Nat → Nat) (hc : Cs w (some ⟨g, 0, none⟩) [.func (.func f) #[] #[]]) (hok : FnOk Tryd.prog f) (hs : ∀ w x y, Calls Tryd.prog f [W x, W y].toArray w fun e w' => e = .returned (W (S x y)) ∧ WS w [] [] w') :
    Calls Tryd.prog 153 [W a, W b, W c, .pointer (some ⟨g, 0, none⟩)].toArray w fun e w' => e = .returned (W (S a b)) ∧ WS w [] [] w' := by
  refine calls_of_T [] 12 [] Tryd.func153 rfl Tryd.ntmps153 (by simp) (WS.refl _ _) ?_
  refine T.seq ?_
  refine T.text [.l, .l, .l, .l] rfl ?_
  refine J.box 4 rfl rfl (wc a) rfl rfl (fun g4 hg4 => ?_)
  refine J.box 5 rfl rfl (wc b) rfl rfl (fun g5 hg5 => ?_)
  refine J.box 6 rfl rfl (wc c) rfl rfl (fun g6 hg6 => ?_)
  refine J.alloc 7 rfl zero24 [.int .u64 0, .int .u64 0, .int .u64 0, .int .u64 0] rfl rfl (fun g7 hg7 => ?_)
  refine J.end ?_
  refine X.then ?_
  refine T.seq ?_
  refine T.text [.l, .l, .l, .l, .l] rfl ?_
  refine J.loadI1 (k := .l) trivial (A := some ⟨g, 0, none⟩) (i := 0) hc (off_nil _) rfl one25 rfl rfl ?_
  refine J.loadN (k := .l) trivial 4 rfl rfl agg24 (wc a) rfl rfl rfl ?_
  refine J.loadN (k := .l) trivial 5 rfl rfl agg24 (wc b) rfl rfl rfl ?_
  refine J.callV0 hok rfl rfl rfl (fun w hw => hs _ _ _) ?_
  refine J.store 7 rfl rfl rfl rfl (wc (S a b)) rfl sz24 (by first | decide | exact Nat.le_refl _ | exact Nat.le_of_ble_eq_true rfl | (simp [rowN]; done) | (simp [rowN]; omega)) (by first | exact rowN_one _ _ | (simp; done) | (intro u hu; simp at hu; subst hu; rfl) | (intro u hu; simp at hu; rcases hu with rfl | rfl <;> rfl)) (by first | decide | exact Nat.zero_lt_succ _ | simp) trivial (wc (S a b)) rfl ?_
  refine J.end ?_
  refine X.then ?_
  refine T.ret ?_
  exact X.ret1 rfl (RV.agg 7 rfl rfl agg24 (wc (S a b)) (by rfl) (by rfl) rfl) (fun w' hw' => ⟨rfl, hw'.sub (Sub.nil _)⟩)

theorem is1 (w : World) (a b c g f : Nat) (S : Nat → Nat → Prop) [∀ x y, Decidable (S x y)] (hc : Cs w (some ⟨g, 0, none⟩) [.func (.func f) #[] #[]]) (hok : FnOk Tryd.prog f) (hs : ∀ w x y, Calls Tryd.prog f [W x, W y].toArray w fun e w' => e = .returned (.bool (decide (S x y))) ∧ WS w [] [] w') :
    Calls Tryd.prog 155 [W a, W b, W c, .pointer (some ⟨g, 0, none⟩)].toArray w fun e w' => e = .returned (W (if S a b then 1 else 0)) ∧ WS w [] [] w' := by
  refine calls_of_T [] 13 [] Tryd.func155 rfl Tryd.ntmps155 (by simp) (WS.refl _ _) ?_
  refine T.seq ?_
  refine T.text [.l, .l, .l, .l] rfl ?_
  refine J.box 4 rfl rfl (wc a) rfl rfl (fun g4 hg4 => ?_)
  refine J.box 5 rfl rfl (wc b) rfl rfl (fun g5 hg5 => ?_)
  refine J.box 6 rfl rfl (wc c) rfl rfl (fun g6 hg6 => ?_)
  refine J.alloc 7 rfl zero24 [.int .u64 0, .int .u64 0, .int .u64 0, .int .u64 0] rfl rfl (fun g7 hg7 => ?_)
  refine J.end ?_
  refine X.then ?_
  refine T.seq ?_
  refine T.text [.l, .l, .l, .l, .l, .l] rfl ?_
  refine J.loadI1 (k := .l) trivial (A := some ⟨g, 0, none⟩) (i := 0) hc (off_nil _) rfl one27 rfl rfl ?_
  refine J.loadN (k := .l) trivial 4 rfl rfl agg24 (wc a) rfl rfl rfl ?_
  refine J.loadN (k := .l) trivial 5 rfl rfl agg24 (wc b) rfl rfl rfl ?_
  refine J.callV0 hok rfl rfl rfl (fun w hw => hs _ _ _) ?_
  refine J.call0 (k := .l) trivial fok156 rfl rfl (fun w hw => We.truth w (S a b)) ?_
  refine J.store 7 rfl rfl rfl rfl (wc (if S a b then 1 else 0)) rfl sz24 (by first | decide | exact Nat.le_refl _ | exact Nat.le_of_ble_eq_true rfl | (simp [rowN]; done) | (simp [rowN]; omega)) (by first | exact rowN_one _ _ | (simp; done) | (intro u hu; simp at hu; subst hu; rfl) | (intro u hu; simp at hu; rcases hu with rfl | rfl <;> rfl)) (by first | decide | exact Nat.zero_lt_succ _ | simp) trivial (wc (if S a b then 1 else 0)) rfl ?_
  refine J.end ?_
  refine X.then ?_
  refine T.ret ?_
  exact X.ret1 rfl (RV.agg 7 rfl rfl agg24 (wc (if S a b then 1 else 0)) (by rfl) (by rfl) rfl) (fun w' hw' => ⟨rfl, hw'.sub (Sub.nil _)⟩)

theorem two (w : World) (f : Nat) :
    Calls Tryd.prog 152 [.func (.func f) #[] #[]].toArray w fun e w' => ClosPost w 25 153 (.func (.func f) #[] #[]) e w' := by
  refine calls_of_T [] 4 [] Tryd.func152 rfl Tryd.ntmps152 (by simp) (WS.refl _ _) ?_
  refine T.seq ?_
  refine T.text [.l, .l] rfl ?_
  refine J.box 1 rfl rfl _ rfl rfl (fun g1 hg1 => ?_)
  refine J.assign rfl rfl ?_
  refine J.end ?_
  refine X.then ?_
  refine T.seq ?_
  refine T.text [.l, .l] rfl ?_
  refine J.makeFunc (vf := []) (vc := [_]) rfl rfl rfl ?_
  refine J.assign rfl rfl ?_
  refine J.end ?_
  refine X.then ?_
  refine T.ret ?_
  exact X.ret1 rfl (RV.tmp rfl) (fun w' hw' => ⟨g1, hg1, rfl, hw'.only 1 0 rfl⟩)

theorem is_ (w : World) (f : Nat) :
    Calls Tryd.prog 154 [.func (.func f) #[] #[]].toArray w fun e w' => ClosPost w 27 155 (.func (.func f) #[] #[]) e w' := by
  refine calls_of_T [] 4 [] Tryd.func154 rfl Tryd.ntmps154 (by simp) (WS.refl _ _) ?_
  refine T.seq ?_
  refine T.text [.l, .l] rfl ?_
  refine J.box 1 rfl rfl _ rfl rfl (fun g1 hg1 => ?_)
  refine J.assign rfl rfl ?_
  refine J.end ?_
  refine X.then ?_
  refine T.seq ?_
  refine T.text [.l, .l] rfl ?_
  refine J.makeFunc (vf := []) (vc := [_]) rfl rfl rfl ?_
  refine J.assign rfl rfl ?_
  refine J.end ?_
  refine X.then ?_
  refine T.ret ?_
  exact X.ret1 rfl (RV.tmp rfl) (fun w' hw' => ⟨g1, hg1, rfl, hw'.only 1 0 rfl⟩)

theorem isz (w : World) (x0 x1 x2 : Nat) :
    Calls Tryd.prog 157 [W x0, W x1, W x2].toArray w fun e w' => e = .returned (W (if x0 % 2 ^ 256 = 0 then 1 else 0)) ∧ WS w [] [] w' := by
  refine calls_of_T [] 10 [] Tryd.func157 rfl Tryd.ntmps157 (by simp) (WS.refl _ _) ?_
  refine T.seq ?_
  refine T.text [.l, .l, .l, .l] rfl ?_
  refine J.box 3 rfl rfl (wc x0) rfl rfl (fun g3 hg3 => ?_)
  refine J.box 4 rfl rfl (wc x1) rfl rfl (fun g4 hg4 => ?_)
  refine J.box 5 rfl rfl (wc x2) rfl rfl (fun g5 hg5 => ?_)
  refine J.alloc 6 rfl zero24 [.int .u64 0, .int .u64 0, .int .u64 0, .int .u64 0] rfl rfl (fun g6 hg6 => ?_)
  refine J.end ?_
  refine X.then ?_
  refine T.seq ?_
  refine T.text [.l, .l, .l, .l] rfl ?_
  refine J.loadN (k := .l) trivial 3 rfl rfl agg24 (wc x0) rfl rfl rfl ?_
  refine J.call0 (k := .l) trivial fok81 rfl rfl (fun w hw => Wa.IsZero w _) ?_
  refine J.call0 (k := .l) trivial fok156 rfl rfl (fun w hw => We.truth w (x0 % 2 ^ 256 = 0)) ?_
  refine J.store 6 rfl rfl rfl rfl (wc (if x0 % 2 ^ 256 = 0 then 1 else 0)) rfl sz24 (by first | decide | exact Nat.le_refl _ | exact Nat.le_of_ble_eq_true rfl | (simp [rowN]; done) | (simp [rowN]; omega)) (by first | exact rowN_one _ _ | (simp; done) | (intro u hu; simp at hu; subst hu; rfl) | (intro u hu; simp at hu; rcases hu with rfl | rfl <;> rfl)) (by first | decide | exact Nat.zero_lt_succ _ | simp) trivial (wc (if x0 % 2 ^ 256 = 0 then 1 else 0)) rfl ?_
  refine J.end ?_
  refine X.then ?_
  refine T.ret ?_
  exact X.ret1 rfl (RV.agg 6 rfl rfl agg24 (wc (if x0 % 2 ^ 256 = 0 then 1 else 0)) (by rfl) (by rfl) rfl) (fun w' hw' => ⟨rfl, hw'.sub (Sub.nil _)⟩)

theorem not_ (w : World) (x0 x1 x2 : Nat) :
    Calls Tryd.prog 158 [W x0, W x1, W x2].toArray w fun e w' => e = .returned (W (notN x0)) ∧ WS w [] [] w' := by
  refine calls_of_T [] 9 [] Tryd.func158 rfl Tryd.ntmps158 (by simp) (WS.refl _ _) ?_
  refine T.seq ?_
  refine T.text [.l, .l, .l, .l] rfl ?_
  refine J.box 3 rfl rfl (wc x0) rfl rfl (fun g3 hg3 => ?_)
  refine J.box 4 rfl rfl (wc x1) rfl rfl (fun g4 hg4 => ?_)
  refine J.box 5 rfl rfl (wc x2) rfl rfl (fun g5 hg5 => ?_)
  refine J.alloc 6 rfl zero24 [.int .u64 0, .int .u64 0, .int .u64 0, .int .u64 0] rfl rfl (fun g6 hg6 => ?_)
  refine J.end ?_
  refine X.then ?_
  refine T.seq ?_
  refine T.text [.l, .l, .l] rfl ?_
  refine J.loadN (k := .l) trivial 3 rfl rfl agg24 (wc x0) rfl rfl rfl ?_
  refine J.call0 (k := .l) trivial fok61 rfl rfl (fun w hw => We.Not w _) ?_
  refine J.store 6 rfl rfl rfl rfl (wc (notN x0)) rfl sz24 (by first | decide | exact Nat.le_refl _ | exact Nat.le_of_ble_eq_true rfl | (simp [rowN]; done) | (simp [rowN]; omega)) (by first | exact rowN_one _ _ | (simp; done) | (intro u hu; simp at hu; subst hu; rfl) | (intro u hu; simp at hu; rcases hu with rfl | rfl <;> rfl)) (by first | decide | exact Nat.zero_lt_succ _ | simp) trivial (wc (notN x0)) rfl ?_
  refine J.end ?_
  refine X.then ?_
  refine T.ret ?_
  exact X.ret1 rfl (RV.agg 6 rfl rfl agg24 (wc (notN x0)) (by rfl) (by rfl) rfl) (fun w' hw' => ⟨rfl, hw'.sub (Sub.nil _)⟩)

theorem clz (w : World) (x0 x1 x2 : Nat) :
    Calls Tryd.prog 159 [W x0, W x1, W x2].toArray w fun e w' => e = .returned (W (256 - bitLen (x0 % 2 ^ 256))) ∧ WS w [] [] w' := by
  refine calls_of_T [] 9 [] Tryd.func159 rfl Tryd.ntmps159 (by simp) (WS.refl _ _) ?_
  refine T.seq ?_
  refine T.text [.l, .l, .l, .l] rfl ?_
  refine J.box 3 rfl rfl (wc x0) rfl rfl (fun g3 hg3 => ?_)
  refine J.box 4 rfl rfl (wc x1) rfl rfl (fun g4 hg4 => ?_)
  refine J.box 5 rfl rfl (wc x2) rfl rfl (fun g5 hg5 => ?_)
  refine J.alloc 6 rfl zero24 [.int .u64 0, .int .u64 0, .int .u64 0, .int .u64 0] rfl rfl (fun g6 hg6 => ?_)
  refine J.end ?_
  refine X.then ?_
  refine T.seq ?_
  refine T.text [.l, .l, .l] rfl ?_
  refine J.loadN (k := .l) trivial 3 rfl rfl agg24 (wc x0) rfl rfl rfl ?_
  refine J.call0 (k := .l) trivial fok73 rfl rfl (fun w hw => We.Clz w _) ?_
  refine J.store 6 rfl rfl rfl rfl (wc (256 - bitLen (x0 % 2 ^ 256))) rfl sz24 (by first | decide | exact Nat.le_refl _ | exact Nat.le_of_ble_eq_true rfl | (simp [rowN]; done) | (simp [rowN]; omega)) (by first | exact rowN_one _ _ | (simp; done) | (intro u hu; simp at hu; subst hu; rfl) | (intro u hu; simp at hu; rcases hu with rfl | rfl <;> rfl)) (by first | decide | exact Nat.zero_lt_succ _ | simp) trivial (wc (256 - bitLen (x0 % 2 ^ 256))) rfl ?_
  refine J.end ?_
  refine X.then ?_
  refine T.ret ?_
  exact X.ret1 rfl (RV.agg 6 rfl rfl agg24 (wc (256 - bitLen (x0 % 2 ^ 256))) (by rfl) (by rfl) rfl) (fun w' hw' => ⟨rfl, hw'.sub (Sub.nil _)⟩)

def fvsOf (γ : Nat → Nat) : List Value := [.nilFunc, .func (.func 153) #[] [.pointer (some ⟨γ 4, 0, none⟩)].toArray, .func (.func 153) #[] [.pointer (some ⟨γ 6, 0, none⟩)].toArray, .func (.func 153) #[] [.pointer (some ⟨γ 8, 0, none⟩)].toArray, .func (.func 153) #[] [.pointer (some ⟨γ 10, 0, none⟩)].toArray, .func (.func 153) #[] [.pointer (some ⟨γ 12, 0, none⟩)].toArray, .func (.func 153) #[] [.pointer (some ⟨γ 14, 0, none⟩)].toArray, .func (.func 153) #[] [.pointer (some ⟨γ 16, 0, none⟩)].toArray, .func (.func 46) #[] #[], .func (.func 48) #[] #[], .func (.func 153) #[] [.pointer (some ⟨γ 18, 0, none⟩)].toArray, .func (.func 153) #[] [.pointer (some ⟨γ 20, 0, none⟩)].toArray, .nilFunc, .nilFunc, .nilFunc, .nilFunc, .func (.func 155) #[] [.pointer (some ⟨γ 22, 0, none⟩)].toArray, .func (.func 155) #[] [.pointer (some ⟨γ 24, 0, none⟩)].toArray, .func (.func 155) #[] [.pointer (some ⟨γ 26, 0, none⟩)].toArray, .func (.func 155) #[] [.pointer (some ⟨γ 28, 0, none⟩)].toArray, .func (.func 155) #[] [.pointer (some ⟨γ 30, 0, none⟩)].toArray, .func (.func 157) #[] #[], .func (.func 153) #[] [.pointer (some ⟨γ 32, 0, none⟩)].toArray, .func (.func 153) #[] [.pointer (some ⟨γ 34, 0, none⟩)].toArray, .func (.func 153) #[] [.pointer (some ⟨γ 36, 0, none⟩)].toArray, .func (.func 158) #[] #[], .func (.func 153) #[] [.pointer (some ⟨γ 38, 0, none⟩)].toArray, .func (.func 153) #[] [.pointer (some ⟨γ 40, 0, none⟩)].toArray, .func (.func 153) #[] [.pointer (some ⟨γ 42, 0, none⟩)].toArray, .func (.func 153) #[] [.pointer (some ⟨γ 44, 0, none⟩)].toArray, .func (.func 159) #[] #[]]
def entsOf (γ : Nat → Nat) : List (Nat × Ent) := [(4, ⟨some (γ 4), 25, [.func (.func 23) #[] #[]]⟩), (6, ⟨some (γ 6), 25, [.func (.func 27) #[] #[]]⟩), (8, ⟨some (γ 8), 25, [.func (.func 25) #[] #[]]⟩), (10, ⟨some (γ 10), 25, [.func (.func 29) #[] #[]]⟩), (12, ⟨some (γ 12), 25, [.func (.func 34) #[] #[]]⟩), (14, ⟨some (γ 14), 25, [.func (.func 31) #[] #[]]⟩), (16, ⟨some (γ 16), 25, [.func (.func 36) #[] #[]]⟩), (18, ⟨some (γ 18), 25, [.func (.func 50) #[] #[]]⟩), (20, ⟨some (γ 20), 25, [.func (.func 44) #[] #[]]⟩), (32, ⟨some (γ 32), 25, [.func (.func 62) #[] #[]]⟩), (34, ⟨some (γ 34), 25, [.func (.func 64) #[] #[]]⟩), (36, ⟨some (γ 36), 25, [.func (.func 66) #[] #[]]⟩), (38, ⟨some (γ 38), 25, [.func (.func 69) #[] #[]]⟩), (40, ⟨some (γ 40), 25, [.func (.func 59) #[] #[]]⟩), (42, ⟨some (γ 42), 25, [.func (.func 60) #[] #[]]⟩), (44, ⟨some (γ 44), 25, [.func (.func 42) #[] #[]]⟩), (22, ⟨some (γ 22), 27, [.func (.func 54) #[] #[]]⟩), (24, ⟨some (γ 24), 27, [.func (.func 55) #[] #[]]⟩), (26, ⟨some (γ 26), 27, [.func (.func 38) #[] #[]]⟩), (28, ⟨some (γ 28), 27, [.func (.func 40) #[] #[]]⟩), (30, ⟨some (γ 30), 27, [.func (.func 79) #[] #[]]⟩)]
theorem fvs_one (γ : Nat → Nat) : ∀ u ∈ fvsOf γ, u.oneCell' = true := by
  intro u hu
  simp only [fvsOf, List.mem_cons, List.not_mem_nil, or_false] at hu
  rcases hu with rfl | rfl | rfl | rfl | rfl | rfl | rfl | rfl | rfl | rfl | rfl | rfl | rfl | rfl | rfl | rfl | rfl | rfl | rfl | rfl | rfl | rfl | rfl | rfl | rfl | rfl | rfl | rfl | rfl | rfl | rfl <;> rfl
set_option maxHeartbeats 2000000 in
theorem works (w : World) :
    Calls Tryd.prog 148 [].toArray w fun e w' => ∃ γ : Nat → Nat, e = .returned (.agg (fvsOf γ).toArray) ∧ WS w [] (sh (entsOf γ)) w' := by
  refine calls_of_T [] 46 [] Tryd.func148 rfl Tryd.ntmps148 (by simp) (WS.refl _ _) ?_
  refine T.seq ?_
  refine T.text [.l] rfl ?_
  refine J.alloc 0 rfl zero99 [.nilFunc, .nilFunc, .nilFunc, .nilFunc, .nilFunc, .nilFunc, .nilFunc, .nilFunc, .nilFunc, .nilFunc, .nilFunc, .nilFunc, .nilFunc, .nilFunc, .nilFunc, .nilFunc, .nilFunc, .nilFunc, .nilFunc, .nilFunc, .nilFunc, .nilFunc, .nilFunc, .nilFunc, .nilFunc, .nilFunc, .nilFunc, .nilFunc, .nilFunc, .nilFunc, .nilFunc] rfl rfl (fun g0 hg0 => ?_)
  refine J.end ?_
  refine X.then ?_
  refine T.seq ?_
  refine T.text [.l] rfl ?_
  refine J.assign rfl rfl ?_
  refine J.end ?_
  refine X.then ?_
  refine T.seq ?_
  refine T.text [.l] rfl ?_
  refine J.assign rfl rfl ?_
  refine J.end ?_
  refine X.then ?_
  refine T.seq ?_
  refine T.text [.l, .l, .l, .l, .l, .l, .l, .l, .l, .l, .l, .l, .l, .l, .l, .l, .l, .l, .l, .l, .l, .l, .l, .l, .l, .l, .l, .l, .l, .l, .l, .l, .l, .l, .l, .l, .l, .l, .l, .l, .l, .l, .l, .l] rfl ?_
  refine J.move rfl rfl ?_
  refine J.callClos 4 rfl (t := 25) (f2 := 153) (fv := .func (.func 23) #[] #[]) fok152 rfl rfl rfl (fun w hw => Wg.two w _) (fun g4 hg4 => ?_)
  refine J.move rfl rfl ?_
  refine J.callClos 6 rfl (t := 25) (f2 := 153) (fv := .func (.func 27) #[] #[]) fok152 rfl rfl rfl (fun w hw => Wg.two w _) (fun g6 hg6 => ?_)
  refine J.move rfl rfl ?_
  refine J.callClos 8 rfl (t := 25) (f2 := 153) (fv := .func (.func 25) #[] #[]) fok152 rfl rfl rfl (fun w hw => Wg.two w _) (fun g8 hg8 => ?_)
  refine J.move rfl rfl ?_
  refine J.callClos 10 rfl (t := 25) (f2 := 153) (fv := .func (.func 29) #[] #[]) fok152 rfl rfl rfl (fun w hw => Wg.two w _) (fun g10 hg10 => ?_)
  refine J.move rfl rfl ?_
  refine J.callClos 12 rfl (t := 25) (f2 := 153) (fv := .func (.func 34) #[] #[]) fok152 rfl rfl rfl (fun w hw => Wg.two w _) (fun g12 hg12 => ?_)
  refine J.move rfl rfl ?_
  refine J.callClos 14 rfl (t := 25) (f2 := 153) (fv := .func (.func 31) #[] #[]) fok152 rfl rfl rfl (fun w hw => Wg.two w _) (fun g14 hg14 => ?_)
  refine J.move rfl rfl ?_
  refine J.callClos 16 rfl (t := 25) (f2 := 153) (fv := .func (.func 36) #[] #[]) fok152 rfl rfl rfl (fun w hw => Wg.two w _) (fun g16 hg16 => ?_)
  refine J.move rfl rfl ?_
  refine J.callClos 18 rfl (t := 25) (f2 := 153) (fv := .func (.func 50) #[] #[]) fok152 rfl rfl rfl (fun w hw => Wg.two w _) (fun g18 hg18 => ?_)
  refine J.move rfl rfl ?_
  refine J.callClos 20 rfl (t := 25) (f2 := 153) (fv := .func (.func 44) #[] #[]) fok152 rfl rfl rfl (fun w hw => Wg.two w _) (fun g20 hg20 => ?_)
  refine J.move rfl rfl ?_
  refine J.callClos 22 rfl (t := 27) (f2 := 155) (fv := .func (.func 54) #[] #[]) fok154 rfl rfl rfl (fun w hw => Wg.is_ w _) (fun g22 hg22 => ?_)
  refine J.move rfl rfl ?_
  refine J.callClos 24 rfl (t := 27) (f2 := 155) (fv := .func (.func 55) #[] #[]) fok154 rfl rfl rfl (fun w hw => Wg.is_ w _) (fun g24 hg24 => ?_)
  refine J.move rfl rfl ?_
  refine J.callClos 26 rfl (t := 27) (f2 := 155) (fv := .func (.func 38) #[] #[]) fok154 rfl rfl rfl (fun w hw => Wg.is_ w _) (fun g26 hg26 => ?_)
  refine J.move rfl rfl ?_
  refine J.callClos 28 rfl (t := 27) (f2 := 155) (fv := .func (.func 40) #[] #[]) fok154 rfl rfl rfl (fun w hw => Wg.is_ w _) (fun g28 hg28 => ?_)
  refine J.move rfl rfl ?_
  refine J.callClos 30 rfl (t := 27) (f2 := 155) (fv := .func (.func 79) #[] #[]) fok154 rfl rfl rfl (fun w hw => Wg.is_ w _) (fun g30 hg30 => ?_)
  refine J.move rfl rfl ?_
  refine J.callClos 32 rfl (t := 25) (f2 := 153) (fv := .func (.func 62) #[] #[]) fok152 rfl rfl rfl (fun w hw => Wg.two w _) (fun g32 hg32 => ?_)
  refine J.move rfl rfl ?_
  refine J.callClos 34 rfl (t := 25) (f2 := 153) (fv := .func (.func 64) #[] #[]) fok152 rfl rfl rfl (fun w hw => Wg.two w _) (fun g34 hg34 => ?_)
  refine J.move rfl rfl ?_
  refine J.callClos 36 rfl (t := 25) (f2 := 153) (fv := .func (.func 66) #[] #[]) fok152 rfl rfl rfl (fun w hw => Wg.two w _) (fun g36 hg36 => ?_)
  refine J.move rfl rfl ?_
  refine J.callClos 38 rfl (t := 25) (f2 := 153) (fv := .func (.func 69) #[] #[]) fok152 rfl rfl rfl (fun w hw => Wg.two w _) (fun g38 hg38 => ?_)
  refine J.move rfl rfl ?_
  refine J.callClos 40 rfl (t := 25) (f2 := 153) (fv := .func (.func 59) #[] #[]) fok152 rfl rfl rfl (fun w hw => Wg.two w _) (fun g40 hg40 => ?_)
  refine J.move rfl rfl ?_
  refine J.callClos 42 rfl (t := 25) (f2 := 153) (fv := .func (.func 60) #[] #[]) fok152 rfl rfl rfl (fun w hw => Wg.two w _) (fun g42 hg42 => ?_)
  refine J.move rfl rfl ?_
  refine J.callClos 44 rfl (t := 25) (f2 := 153) (fv := .func (.func 42) #[] #[]) fok152 rfl rfl rfl (fun w hw => Wg.two w _) (fun g44 hg44 => ?_)
  refine J.build rfl rfl (.agg ([.nilFunc, .func (.func 153) #[] [.pointer (some ⟨g4, 0, none⟩)].toArray, .func (.func 153) #[] [.pointer (some ⟨g6, 0, none⟩)].toArray, .func (.func 153) #[] [.pointer (some ⟨g8, 0, none⟩)].toArray, .func (.func 153) #[] [.pointer (some ⟨g10, 0, none⟩)].toArray, .func (.func 153) #[] [.pointer (some ⟨g12, 0, none⟩)].toArray, .func (.func 153) #[] [.pointer (some ⟨g14, 0, none⟩)].toArray, .func (.func 153) #[] [.pointer (some ⟨g16, 0, none⟩)].toArray, .func (.func 46) #[] #[], .func (.func 48) #[] #[], .func (.func 153) #[] [.pointer (some ⟨g18, 0, none⟩)].toArray, .func (.func 153) #[] [.pointer (some ⟨g20, 0, none⟩)].toArray, .nilFunc, .nilFunc, .nilFunc, .nilFunc, .func (.func 155) #[] [.pointer (some ⟨g22, 0, none⟩)].toArray, .func (.func 155) #[] [.pointer (some ⟨g24, 0, none⟩)].toArray, .func (.func 155) #[] [.pointer (some ⟨g26, 0, none⟩)].toArray, .func (.func 155) #[] [.pointer (some ⟨g28, 0, none⟩)].toArray, .func (.func 155) #[] [.pointer (some ⟨g30, 0, none⟩)].toArray, .func (.func 157) #[] #[], .func (.func 153) #[] [.pointer (some ⟨g32, 0, none⟩)].toArray, .func (.func 153) #[] [.pointer (some ⟨g34, 0, none⟩)].toArray, .func (.func 153) #[] [.pointer (some ⟨g36, 0, none⟩)].toArray, .func (.func 158) #[] #[], .func (.func 153) #[] [.pointer (some ⟨g38, 0, none⟩)].toArray, .func (.func 153) #[] [.pointer (some ⟨g40, 0, none⟩)].toArray, .func (.func 153) #[] [.pointer (some ⟨g42, 0, none⟩)].toArray, .func (.func 153) #[] [.pointer (some ⟨g44, 0, none⟩)].toArray, .func (.func 159) #[] #[]] : List Value).toArray) (fun w => by kernel_rfl) ?_
  refine J.store 0 rfl rfl rfl rfl (fvsOf (fun i => match i with | 4 => g4 | 6 => g6 | 8 => g8 | 10 => g10 | 12 => g12 | 14 => g14 | 16 => g16 | 18 => g18 | 20 => g20 | 32 => g32 | 34 => g34 | 36 => g36 | 38 => g38 | 40 => g40 | 42 => g42 | 44 => g44 | 22 => g22 | 24 => g24 | 26 => g26 | 28 => g28 | 30 => g30 | _ => 0)) rfl sz99 (by first | decide | exact Nat.le_refl _ | exact Nat.le_of_ble_eq_true rfl | (simp [rowN]; done) | (simp [rowN]; omega)) (fvs_one _) (by first | decide | exact Nat.zero_lt_succ _ | simp) trivial (fvsOf (fun i => match i with | 4 => g4 | 6 => g6 | 8 => g8 | 10 => g10 | 12 => g12 | 14 => g14 | 16 => g16 | 18 => g18 | 20 => g20 | 32 => g32 | 34 => g34 | 36 => g36 | 38 => g38 | 40 => g40 | 42 => g42 | 44 => g44 | 22 => g22 | 24 => g24 | 26 => g26 | 28 => g28 | 30 => g30 | _ => 0)) rfl ?_
  refine J.end ?_
  refine X.then ?_
  refine T.ret ?_
  exact X.ret1 rfl (RV.agg 0 rfl rfl agg99 (fvsOf (fun i => match i with | 4 => g4 | 6 => g6 | 8 => g8 | 10 => g10 | 12 => g12 | 14 => g14 | 16 => g16 | 18 => g18 | 20 => g20 | 32 => g32 | 34 => g34 | 36 => g36 | 38 => g38 | 40 => g40 | 42 => g42 | 44 => g44 | 22 => g22 | 24 => g24 | 26 => g26 | 28 => g28 | 30 => g30 | _ => 0)) (by rfl) (by rfl) rfl) (fun w' hw' => ⟨(fun i => match i with | 4 => g4 | 6 => g6 | 8 => g8 | 10 => g10 | 12 => g12 | 14 => g14 | 16 => g16 | 18 => g18 | 20 => g20 | 32 => g32 | 34 => g34 | 36 => g36 | 38 => g38 | 40 => g40 | 42 => g42 | 44 => g44 | 22 => g22 | 24 => g24 | 26 => g26 | 28 => g28 | 30 => g30 | _ => 0), rfl, (hw'.sub (by unfold entsOf; repeat (first | exact Sub.nil _ | refine Sub.cons rfl ?_))).sh⟩)
end Go.Proofs.YtegociefcfcihaaDoor.Wg
set_option linter.unusedVariables false
set_option maxRecDepth 20000
namespace Go.Proofs.YtegociefcfcihaaDoor.Wh
open Go Go.Fw

theorem sz39 : SizeT Tryd.prog 39 32 := (by unfold SizeT; kernel_rfl)
theorem zero8 : ZeroT Tryd.prog 67 (.agg (rowN .u64 (lg 0)).toArray) := (by unfold ZeroT; kernel_rfl)
theorem one25 : OneT Tryd.prog 25 := ⟨⟨_, Tryd.underlying25, rfl⟩, by kernel_rfl⟩
theorem one27 : OneT Tryd.prog 27 := ⟨⟨_, Tryd.underlying27, rfl⟩, by kernel_rfl⟩
theorem fok153 : FnOk Tryd.prog 153 := FnOk.mk' Tryd.func153 (by kernel_rfl) rfl
theorem fok23 : FnOk Tryd.prog 23 := FnOk.mk' Tryd.func23 (by kernel_rfl) rfl
theorem fok27 : FnOk Tryd.prog 27 := FnOk.mk' Tryd.func27 (by kernel_rfl) rfl
theorem fok25 : FnOk Tryd.prog 25 := FnOk.mk' Tryd.func25 (by kernel_rfl) rfl
theorem fok29 : FnOk Tryd.prog 29 := FnOk.mk' Tryd.func29 (by kernel_rfl) rfl
theorem fok34 : FnOk Tryd.prog 34 := FnOk.mk' Tryd.func34 (by kernel_rfl) rfl
theorem fok31 : FnOk Tryd.prog 31 := FnOk.mk' Tryd.func31 (by kernel_rfl) rfl
theorem fok36 : FnOk Tryd.prog 36 := FnOk.mk' Tryd.func36 (by kernel_rfl) rfl
theorem fok46 : FnOk Tryd.prog 46 := FnOk.mk' Tryd.func46 (by kernel_rfl) rfl
theorem fok48 : FnOk Tryd.prog 48 := FnOk.mk' Tryd.func48 (by kernel_rfl) rfl
theorem fok50 : FnOk Tryd.prog 50 := FnOk.mk' Tryd.func50 (by kernel_rfl) rfl
theorem fok44 : FnOk Tryd.prog 44 := FnOk.mk' Tryd.func44 (by kernel_rfl) rfl
theorem fok155 : FnOk Tryd.prog 155 := FnOk.mk' Tryd.func155 (by kernel_rfl) rfl
theorem fok54 : FnOk Tryd.prog 54 := FnOk.mk' Tryd.func54 (by kernel_rfl) rfl
theorem fok55 : FnOk Tryd.prog 55 := FnOk.mk' Tryd.func55 (by kernel_rfl) rfl
theorem fok38 : FnOk Tryd.prog 38 := FnOk.mk' Tryd.func38 (by kernel_rfl) rfl
theorem fok40 : FnOk Tryd.prog 40 := FnOk.mk' Tryd.func40 (by kernel_rfl) rfl
theorem fok79 : FnOk Tryd.prog 79 := FnOk.mk' Tryd.func79 (by kernel_rfl) rfl
theorem fok157 : FnOk Tryd.prog 157 := FnOk.mk' Tryd.func157 (by kernel_rfl) rfl
theorem fok62 : FnOk Tryd.prog 62 := FnOk.mk' Tryd.func62 (by kernel_rfl) rfl
theorem fok64 : FnOk Tryd.prog 64 := FnOk.mk' Tryd.func64 (by kernel_rfl) rfl
theorem fok66 : FnOk Tryd.prog 66 := FnOk.mk' Tryd.func66 (by kernel_rfl) rfl
theorem fok158 : FnOk Tryd.prog 158 := FnOk.mk' Tryd.func158 (by kernel_rfl) rfl
theorem fok69 : FnOk Tryd.prog 69 := FnOk.mk' Tryd.func69 (by kernel_rfl) rfl
theorem fok59 : FnOk Tryd.prog 59 := FnOk.mk' Tryd.func59 (by kernel_rfl) rfl
theorem fok60 : FnOk Tryd.prog 60 := FnOk.mk' Tryd.func60 (by kernel_rfl) rfl
theorem fok42 : FnOk Tryd.prog 42 := FnOk.mk' Tryd.func42 (by kernel_rfl) rfl
theorem fok159 : FnOk Tryd.prog 159 := FnOk.mk' Tryd.func159 (by kernel_rfl) rfl
theorem func98T : FuncT Tryd.prog 98 := ⟨_, _, _, Tryd.underlying98⟩
theorem fok148 : FnOk Tryd.prog 148 := FnOk.mk' Tryd.func148 (by kernel_rfl) rfl
theorem zero24 : ZeroT Tryd.prog 24 (.agg ([.int .u64 0, .int .u64 0, .int .u64 0, .int .u64 0]).toArray) := (by unfold ZeroT; kernel_rfl)
theorem zero99 : ZeroT Tryd.prog 99 (.agg ([.nilFunc, .nilFunc, .nilFunc, .nilFunc, .nilFunc, .nilFunc, .nilFunc, .nilFunc, .nilFunc, .nilFunc, .nilFunc, .nilFunc, .nilFunc, .nilFunc, .nilFunc, .nilFunc, .nilFunc, .nilFunc, .nilFunc, .nilFunc, .nilFunc, .nilFunc, .nilFunc, .nilFunc, .nilFunc, .nilFunc, .nilFunc, .nilFunc, .nilFunc, .nilFunc, .nilFunc]).toArray) := (by unfold ZeroT; kernel_rfl)
theorem sz99 : SizeT Tryd.prog 99 31 := (by unfold SizeT; kernel_rfl)
theorem sz98 : SizeT Tryd.prog 98 1 := (by unfold SizeT; kernel_rfl)
theorem arr99 : ArrT Tryd.prog 99 31 98 1 := ⟨Tryd.underlying99, sz98⟩
theorem one98 : OneT Tryd.prog 98 := ⟨⟨_, Tryd.underlying98, rfl⟩, by kernel_rfl⟩
theorem agg24 : AggT Tryd.prog 24 4 := ⟨⟨_, Tryd.underlying24, rfl⟩, by kernel_rfl⟩
theorem sz24 : SizeT Tryd.prog 24 4 := (by unfold SizeT; kernel_rfl)

set_option maxHeartbeats 2000000 in
theorem fnAt (γ : Nat → Nat) : ∀ (k : Nat) (S : Nat → Nat → Nat → Nat), doS[k]? = some (some S) → ∃ (f : FuncId) (cap : List Value), (Wg.fvsOf γ)[k]? = some (.func (.func f) #[] cap.toArray) ∧ FnOk Tryd.prog f ∧
    ∀ w0 M l w, WS w0 M l w → Sub (sh (Wg.entsOf γ)) l → ∀ a b c, Calls Tryd.prog f ([W a, W b, W c] ++ cap).toArray w fun e w' => e = .returned (W (S a b c)) ∧ WS w [] [] w'
  | 0, S, h => by
    cases h
  | 1, S, h => by
    cases h; exact ⟨153, [.pointer (some ⟨γ 4, 0, none⟩)], rfl, fok153, fun w0 M l w hw hs a b c => Wg.two1 w a b c _ _ (fun x y => x + y) (hw.csAt (hs (1000 + 4) _ rfl)) fok23 (fun w x y => Wb.Add w x y)⟩
  | 2, S, h => by
    cases h; exact ⟨153, [.pointer (some ⟨γ 6, 0, none⟩)], rfl, fok153, fun w0 M l w hw hs a b c => Wg.two1 w a b c _ _ (fun x y => x * y) (hw.csAt (hs (1000 + 6) _ rfl)) fok27 (fun w x y => Wb.Mul w x y)⟩
  | 3, S, h => by
    cases h; exact ⟨153, [.pointer (some ⟨γ 8, 0, none⟩)], rfl, fok153, fun w0 M l w hw hs a b c => Wg.two1 w a b c _ _ (fun x y => dif x y) (hw.csAt (hs (1000 + 8) _ rfl)) fok25 (fun w x y => Wb.Sub w x y)⟩
  | 4, S, h => by
    cases h; exact ⟨153, [.pointer (some ⟨γ 10, 0, none⟩)], rfl, fok153, fun w0 M l w hw hs a b c => Wg.two1 w a b c _ _ (fun x y => divN x y) (hw.csAt (hs (1000 + 10) _ rfl)) fok29 (fun w x y => We.Div w x y)⟩
  | 5, S, h => by
    cases h; exact ⟨153, [.pointer (some ⟨γ 12, 0, none⟩)], rfl, fok153, fun w0 M l w hw hs a b c => Wg.two1 w a b c _ _ (fun x y => sdivN x y) (hw.csAt (hs (1000 + 12) _ rfl)) fok34 (fun w x y => We.SDiv w x y)⟩
  | 6, S, h => by
    cases h; exact ⟨153, [.pointer (some ⟨γ 14, 0, none⟩)], rfl, fok153, fun w0 M l w hw hs a b c => Wg.two1 w a b c _ _ (fun x y => modN x y) (hw.csAt (hs (1000 + 14) _ rfl)) fok31 (fun w x y => We.Mod w x y)⟩
  | 7, S, h => by
    cases h; exact ⟨153, [.pointer (some ⟨γ 16, 0, none⟩)], rfl, fok153, fun w0 M l w hw hs a b c => Wg.two1 w a b c _ _ (fun x y => smodN x y) (hw.csAt (hs (1000 + 16) _ rfl)) fok36 (fun w x y => We.SMod w x y)⟩
  | 8, S, h => by
    cases h; exact ⟨46, [], rfl, fok46, fun w0 M l w hw hs a b c => We.AddMod w a b c⟩
  | 9, S, h => by
    cases h; exact ⟨48, [], rfl, fok48, fun w0 M l w hw hs a b c => We.MulMod w a b c⟩
  | 10, S, h => by
    cases h; exact ⟨153, [.pointer (some ⟨γ 18, 0, none⟩)], rfl, fok153, fun w0 M l w hw hs a b c => Wg.two1 w a b c _ _ (fun x y => powN x y) (hw.csAt (hs (1000 + 18) _ rfl)) fok50 (fun w x y => We.Exp w x y)⟩
  | 11, S, h => by
    cases h; exact ⟨153, [.pointer (some ⟨γ 20, 0, none⟩)], rfl, fok153, fun w0 M l w hw hs a b c => Wg.two1 w a b c _ _ (fun x y => sxN x y) (hw.csAt (hs (1000 + 20) _ rfl)) fok44 (fun w x y => We.SignExtend w x y)⟩
  | 12, S, h => by
    cases h
  | 13, S, h => by
    cases h
  | 14, S, h => by
    cases h
  | 15, S, h => by
    cases h
  | 16, S, h => by
    cases h; exact ⟨155, [.pointer (some ⟨γ 22, 0, none⟩)], rfl, fok155, fun w0 M l w hw hs a b c => Wg.is1 w a b c _ _ (fun x y => x % 2 ^ 256 < y % 2 ^ 256) (hw.csAt (hs (1000 + 22) _ rfl)) fok54 (fun w x y => Wa.Lt w x y)⟩
  | 17, S, h => by
    cases h; exact ⟨155, [.pointer (some ⟨γ 24, 0, none⟩)], rfl, fok155, fun w0 M l w hw hs a b c => Wg.is1 w a b c _ _ (fun x y => y % 2 ^ 256 < x % 2 ^ 256) (hw.csAt (hs (1000 + 24) _ rfl)) fok55 (fun w x y => Wa.Gt w x y)⟩
  | 18, S, h => by
    cases h; exact ⟨155, [.pointer (some ⟨γ 26, 0, none⟩)], rfl, fok155, fun w0 M l w hw hs a b c => Wg.is1 w a b c _ _ (fun x y => sltP x y) (hw.csAt (hs (1000 + 26) _ rfl)) fok38 (fun w x y => We.SLt w x y)⟩
  | 19, S, h => by
    cases h; exact ⟨155, [.pointer (some ⟨γ 28, 0, none⟩)], rfl, fok155, fun w0 M l w hw hs a b c => Wg.is1 w a b c _ _ (fun x y => sltP y x) (hw.csAt (hs (1000 + 28) _ rfl)) fok40 (fun w x y => We.SGt w x y)⟩
  | 20, S, h => by
    cases h; exact ⟨155, [.pointer (some ⟨γ 30, 0, none⟩)], rfl, fok155, fun w0 M l w hw hs a b c => Wg.is1 w a b c _ _ (fun x y => x % 2 ^ 256 = y % 2 ^ 256) (hw.csAt (hs (1000 + 30) _ rfl)) fok79 (fun w x y => We.Eq w x y)⟩
  | 21, S, h => by
    cases h; exact ⟨157, [], rfl, fok157, fun w0 M l w hw hs a b c => Wg.isz w a b c⟩
  | 22, S, h => by
    cases h; exact ⟨153, [.pointer (some ⟨γ 32, 0, none⟩)], rfl, fok153, fun w0 M l w hw hs a b c => Wg.two1 w a b c _ _ (fun x y => x &&& y) (hw.csAt (hs (1000 + 32) _ rfl)) fok62 (fun w x y => We.And w x y)⟩
  | 23, S, h => by
    cases h; exact ⟨153, [.pointer (some ⟨γ 34, 0, none⟩)], rfl, fok153, fun w0 M l w hw hs a b c => Wg.two1 w a b c _ _ (fun x y => x ||| y) (hw.csAt (hs (1000 + 34) _ rfl)) fok64 (fun w x y => We.Or w x y)⟩
  | 24, S, h => by
    cases h; exact ⟨153, [.pointer (some ⟨γ 36, 0, none⟩)], rfl, fok153, fun w0 M l w hw hs a b c => Wg.two1 w a b c _ _ (fun x y => x ^^^ y) (hw.csAt (hs (1000 + 36) _ rfl)) fok66 (fun w x y => We.Xor w x y)⟩
  | 25, S, h => by
    cases h; exact ⟨158, [], rfl, fok158, fun w0 M l w hw hs a b c => Wg.not_ w a b c⟩
  | 26, S, h => by
    cases h; exact ⟨153, [.pointer (some ⟨γ 38, 0, none⟩)], rfl, fok153, fun w0 M l w hw hs a b c => Wg.two1 w a b c _ _ (fun x y => byteN x y) (hw.csAt (hs (1000 + 38) _ rfl)) fok69 (fun w x y => We.Byte w x y)⟩
  | 27, S, h => by
    cases h; exact ⟨153, [.pointer (some ⟨γ 40, 0, none⟩)], rfl, fok153, fun w0 M l w hw hs a b c => Wg.two1 w a b c _ _ (fun x y => shlN x y) (hw.csAt (hs (1000 + 40) _ rfl)) fok59 (fun w x y => We.Shl w x y)⟩
  | 28, S, h => by
    cases h; exact ⟨153, [.pointer (some ⟨γ 42, 0, none⟩)], rfl, fok153, fun w0 M l w hw hs a b c => Wg.two1 w a b c _ _ (fun x y => shrN x y) (hw.csAt (hs (1000 + 42) _ rfl)) fok60 (fun w x y => We.Shr w x y)⟩
  | 29, S, h => by
    cases h; exact ⟨153, [.pointer (some ⟨γ 44, 0, none⟩)], rfl, fok153, fun w0 M l w hw hs a b c => Wg.two1 w a b c _ _ (fun x y => sarN x y) (hw.csAt (hs (1000 + 44) _ rfl)) fok42 (fun w x y => We.Sar w x y)⟩
  | 30, S, h => by
    cases h; exact ⟨159, [], rfl, fok159, fun w0 M l w hw hs a b c => Wg.clz w a b c⟩
  | k + 31, S, h => by have := (List.getElem?_eq_some_iff.1 h).1; simp [doS] at this; omega
theorem nilAt (γ : Nat → Nat) : ∀ (k : Nat), doS[k]? = some none → (Wg.fvsOf γ)[k]? = some .nilFunc
  | 0, h => rfl
  | 1, h => by cases h
  | 2, h => by cases h
  | 3, h => by cases h
  | 4, h => by cases h
  | 5, h => by cases h
  | 6, h => by cases h
  | 7, h => by cases h
  | 8, h => by cases h
  | 9, h => by cases h
  | 10, h => by cases h
  | 11, h => by cases h
  | 12, h => rfl
  | 13, h => rfl
  | 14, h => rfl
  | 15, h => rfl
  | 16, h => by cases h
  | 17, h => by cases h
  | 18, h => by cases h
  | 19, h => by cases h
  | 20, h => by cases h
  | 21, h => by cases h
  | 22, h => by cases h
  | 23, h => by cases h
  | 24, h => by cases h
  | 25, h => by cases h
  | 26, h => by cases h
  | 27, h => by cases h
  | 28, h => by cases h
  | 29, h => by cases h
  | 30, h => by cases h
  | k + 31, h => by have := (List.getElem?_eq_some_iff.1 h).1; simp [doS] at this; omega
theorem DoYes (w : World) (k x0 x1 x2 : Nat) (S : Nat → Nat → Nat → Nat) (hS : doS[k]? = some (some S)) :
    Calls Tryd.prog 120 [.int .i64 (k : Int), W x0, W x1, W x2].toArray w fun e w' => e = .returned (.tuple #[W (S x0 x1 x2), .bool true]) ∧ WS w [] [] w' := by
  have hk : k < 31 := (List.getElem?_eq_some_iff.1 hS).1
  refine calls_of_T [] 32 [] Tryd.func120 rfl Tryd.ntmps120 (by simp) (WS.refl _ _) ?_
  refine T.seq ?_
  refine T.text [.l, .l, .l, .l, .l] rfl ?_
  refine J.box 5 rfl rfl (wc x0) rfl rfl (fun g5 hg5 => ?_)
  refine J.box 6 rfl rfl (wc x1) rfl rfl (fun g6 hg6 => ?_)
  refine J.box 7 rfl rfl (wc x2) rfl rfl (fun g7 hg7 => ?_)
  refine J.alloc 8 rfl zero24 [.int .u64 0, .int .u64 0, .int .u64 0, .int .u64 0] rfl rfl (fun g8 hg8 => ?_)
  refine J.assign rfl rfl ?_
  refine J.end ?_
  refine X.then ?_
  refine T.seq ?_
  refine T.text [.l, .l, .l] rfl ?_
  refine J.call fok148 rfl rfl (ι := Nat → Nat) (fun _ => True) (fun γ => .agg (Wg.fvsOf γ).toArray) [] (fun γ => sh (Wg.entsOf γ)) (fun w hw => (Wg.works w).mono fun e w2 ⟨γ, he, h2⟩ => ⟨γ, trivial, he, h2⟩) (fun _ _ g hg => by simp at hg) (fun _ _ _ _ => rfl) (fun γ _ => ?_)
  refine J.alloc 10 rfl zero99 [.nilFunc, .nilFunc, .nilFunc, .nilFunc, .nilFunc, .nilFunc, .nilFunc, .nilFunc, .nilFunc, .nilFunc, .nilFunc, .nilFunc, .nilFunc, .nilFunc, .nilFunc, .nilFunc, .nilFunc, .nilFunc, .nilFunc, .nilFunc, .nilFunc, .nilFunc, .nilFunc, .nilFunc, .nilFunc, .nilFunc, .nilFunc, .nilFunc, .nilFunc, .nilFunc, .nilFunc] rfl rfl (fun g10 hg10 => ?_)
  refine J.store 10 rfl rfl rfl rfl (Wg.fvsOf γ) rfl sz99 (by first | decide | exact Nat.le_refl _ | exact Nat.le_of_ble_eq_true rfl | (simp [rowN]; done) | (simp [rowN]; omega)) (Wg.fvs_one _) (by first | decide | exact Nat.zero_lt_succ _ | simp) trivial (Wg.fvsOf γ) rfl ?_
  refine J.end ?_
  refine X.then ?_
  refine T.seq ?_
  refine T.seq ?_
  refine T.text [.l, .l, .l, .l, .l, .l, .l, .l, .l, .l, .l, .l] rfl ?_
  refine J.move rfl rfl ?_
  refine J.lss rfl rfl rfl (decide_eq_false (by first | omega | rfl | assumption | (simp only [*]; done))) ?_
  refine J.move rfl rfl ?_
  refine J.yes rfl rfl ?_
  refine J.move rfl rfl ?_
  refine J.yes rfl rfl ?_
  refine J.geq rfl rfl rfl (decide_eq_false (by first | omega | rfl | assumption | (simp only [*]; done))) ?_
  refine J.pick_f rfl rfl rfl ?_
  refine J.move rfl rfl ?_
  refine J.yes rfl rfl ?_
  refine J.move rfl rfl ?_
  refine J.yes rfl rfl ?_
  obtain ⟨f, cap, hfv, hfok, hfs⟩ := fnAt γ k S hS
  refine J.indexArr arr99 rfl rfl (by omega) (by omega) (by first | exact Int.toNat_natCast _ | rfl) rfl ?_
  refine J.yes rfl rfl ?_
  refine J.load1 (k := .l) trivial 10 rfl rfl one98 (by rw [Nat.zero_add, Nat.mul_one]; exact hfv) rfl ?_
  refine J.yes rfl rfl ?_
  refine J.eqFn func98T rfl rfl rfl ?_
  refine J.pick_f rfl rfl rfl ?_
  refine J.end ?_
  refine X.then ?_
  refine T.cond_false rfl ?_
  refine T.skip ?_
  refine X.then ?_
  refine T.seq ?_
  refine T.draw [] [(0, .g), (1, .g), (2, .q), (3, .q), (4, .q), (5, .q), (6, .l), (7, .l), (8, .g)] (by kernel_rfl) (by kernel_rfl) ?_ (by repeat (first | exact Sub.nil _ | refine Sub.cons (by first | rfl | (rw [dgs_zero]; rfl) | (rw [List.drop_length]; rfl) | (simp; done) | (congr 2; omega) | (congr 3; omega)) ?_))
  refine J.move rfl rfl ?_
  refine J.indexArr arr99 rfl rfl (by omega) (by omega) (by first | exact Int.toNat_natCast _ | rfl) rfl ?_
  refine J.load1 (k := .q) trivial 10 rfl rfl one98 (by rw [Nat.zero_add, Nat.mul_one]; exact hfv) rfl ?_
  refine J.loadN (k := .q) trivial 5 rfl rfl agg24 (wc x0) rfl rfl rfl ?_
  refine J.loadN (k := .q) trivial 6 rfl rfl agg24 (wc x1) rfl rfl rfl ?_
  refine J.loadN (k := .q) trivial 7 rfl rfl agg24 (wc x2) rfl rfl rfl ?_
  refine J.callV0 hfok rfl rfl rfl (fun w hw => hfs _ _ _ _ hw (by unfold Wg.entsOf; repeat (first | exact Sub.nil _ | refine Sub.cons rfl ?_)) _ _ _) ?_
  refine J.store 8 rfl rfl rfl rfl (wc (S x0 x1 x2)) rfl sz24 (by first | decide | exact Nat.le_refl _ | exact Nat.le_of_ble_eq_true rfl | (simp [rowN]; done) | (simp [rowN]; omega)) (by first | exact rowN_one _ _ | (simp; done) | (intro u hu; simp at hu; subst hu; rfl) | (intro u hu; simp at hu; rcases hu with rfl | rfl <;> rfl)) (by first | decide | exact Nat.zero_lt_succ _ | simp) trivial (wc (S x0 x1 x2)) rfl ?_
  refine J.assign rfl rfl ?_
  refine J.end ?_
  refine X.then ?_
  refine T.ret ?_
  exact X.ret2 rfl (RV.agg 8 rfl rfl agg24 (wc (S x0 x1 x2)) (by rfl) (by rfl) rfl) (RV.tmp rfl) (fun w' hw' => ⟨rfl, hw'.sub (Sub.nil _)⟩)

theorem DoNil (w : World) (k x0 x1 x2 : Nat) (hS : doS[k]? = some none) :
    Calls Tryd.prog 120 [.int .i64 (k : Int), W x0, W x1, W x2].toArray w fun e w' => e = .returned (.tuple #[W 0, .bool false]) ∧ WS w [] [] w' := by
  have hk : k < 31 := (List.getElem?_eq_some_iff.1 hS).1
  refine calls_of_T [] 32 [] Tryd.func120 rfl Tryd.ntmps120 (by simp) (WS.refl _ _) ?_
  refine T.seq ?_
  refine T.text [.l, .l, .l, .l, .l] rfl ?_
  refine J.box 5 rfl rfl (wc x0) rfl rfl (fun g5 hg5 => ?_)
  refine J.box 6 rfl rfl (wc x1) rfl rfl (fun g6 hg6 => ?_)
  refine J.box 7 rfl rfl (wc x2) rfl rfl (fun g7 hg7 => ?_)
  refine J.alloc 8 rfl zero24 [.int .u64 0, .int .u64 0, .int .u64 0, .int .u64 0] rfl rfl (fun g8 hg8 => ?_)
  refine J.assign rfl rfl ?_
  refine J.end ?_
  refine X.then ?_
  refine T.seq ?_
  refine T.text [.l, .l, .l] rfl ?_
  refine J.call fok148 rfl rfl (ι := Nat → Nat) (fun _ => True) (fun γ => .agg (Wg.fvsOf γ).toArray) [] (fun γ => sh (Wg.entsOf γ)) (fun w hw => (Wg.works w).mono fun e w2 ⟨γ, he, h2⟩ => ⟨γ, trivial, he, h2⟩) (fun _ _ g hg => by simp at hg) (fun _ _ _ _ => rfl) (fun γ _ => ?_)
  refine J.alloc 10 rfl zero99 [.nilFunc, .nilFunc, .nilFunc, .nilFunc, .nilFunc, .nilFunc, .nilFunc, .nilFunc, .nilFunc, .nilFunc, .nilFunc, .nilFunc, .nilFunc, .nilFunc, .nilFunc, .nilFunc, .nilFunc, .nilFunc, .nilFunc, .nilFunc, .nilFunc, .nilFunc, .nilFunc, .nilFunc, .nilFunc, .nilFunc, .nilFunc, .nilFunc, .nilFunc, .nilFunc, .nilFunc] rfl rfl (fun g10 hg10 => ?_)
  refine J.store 10 rfl rfl rfl rfl (Wg.fvsOf γ) rfl sz99 (by first | decide | exact Nat.le_refl _ | exact Nat.le_of_ble_eq_true rfl | (simp [rowN]; done) | (simp [rowN]; omega)) (Wg.fvs_one _) (by first | decide | exact Nat.zero_lt_succ _ | simp) trivial (Wg.fvsOf γ) rfl ?_
  refine J.end ?_
  refine X.then ?_
  refine T.seq ?_
  refine T.seq ?_
  refine T.text [.l, .l, .l, .l, .l, .l, .l, .l, .l, .l, .l, .l] rfl ?_
  refine J.move rfl rfl ?_
  refine J.lss rfl rfl rfl (decide_eq_false (by first | omega | rfl | assumption | (simp only [*]; done))) ?_
  refine J.move rfl rfl ?_
  refine J.yes rfl rfl ?_
  refine J.move rfl rfl ?_
  refine J.yes rfl rfl ?_
  refine J.geq rfl rfl rfl (decide_eq_false (by first | omega | rfl | assumption | (simp only [*]; done))) ?_
  refine J.pick_f rfl rfl rfl ?_
  refine J.move rfl rfl ?_
  refine J.yes rfl rfl ?_
  refine J.move rfl rfl ?_
  refine J.yes rfl rfl ?_
  refine J.indexArr arr99 rfl rfl (by omega) (by omega) (by first | exact Int.toNat_natCast _ | rfl) rfl ?_
  refine J.yes rfl rfl ?_
  refine J.load1 (k := .l) trivial 10 rfl rfl one98 (by rw [Nat.zero_add, Nat.mul_one]; exact nilAt γ k hS) rfl ?_
  refine J.yes rfl rfl ?_
  refine J.eqFn0 func98T rfl rfl rfl ?_
  refine J.pick_f rfl rfl rfl ?_
  refine J.end ?_
  refine X.then ?_
  refine T.cond_true rfl ?_
  refine T.seq ?_
  refine T.text [.l, .l, .l] rfl ?_
  refine J.build rfl rfl (W 0) (fun w => by kernel_rfl) ?_
  refine J.store 8 rfl rfl rfl rfl (wc 0) rfl sz24 (by first | decide | exact Nat.le_refl _ | exact Nat.le_of_ble_eq_true rfl | (simp [rowN]; done) | (simp [rowN]; omega)) (by first | exact rowN_one _ _ | (simp; done) | (intro u hu; simp at hu; subst hu; rfl) | (intro u hu; simp at hu; rcases hu with rfl | rfl <;> rfl)) (by first | decide | exact Nat.zero_lt_succ _ | simp) trivial (wc 0) rfl ?_
  refine J.assign rfl rfl ?_
  refine J.end ?_
  refine X.then ?_
  refine T.ret ?_
  refine X.then_ret ?_
  exact X.ret2 rfl (RV.agg 8 rfl rfl agg24 (wc 0) (by rfl) (by rfl) rfl) (RV.tmp rfl) (fun w' hw' => ⟨rfl, hw'.sub (Sub.nil _)⟩)

theorem DoOut (w : World) (k : Int) (x0 x1 x2 : Nat) (hk : k < 0 ∨ 31 ≤ k) :
    Calls Tryd.prog 120 [.int .i64 k, W x0, W x1, W x2].toArray w fun e w' => e = .returned (.tuple #[W 0, .bool false]) ∧ WS w [] [] w' := by
  refine calls_of_T [] 32 [] Tryd.func120 rfl Tryd.ntmps120 (by simp) (WS.refl _ _) ?_
  refine T.seq ?_
  refine T.text [.l, .l, .l, .l, .l] rfl ?_
  refine J.box 5 rfl rfl (wc x0) rfl rfl (fun g5 hg5 => ?_)
  refine J.box 6 rfl rfl (wc x1) rfl rfl (fun g6 hg6 => ?_)
  refine J.box 7 rfl rfl (wc x2) rfl rfl (fun g7 hg7 => ?_)
  refine J.alloc 8 rfl zero24 [.int .u64 0, .int .u64 0, .int .u64 0, .int .u64 0] rfl rfl (fun g8 hg8 => ?_)
  refine J.assign rfl rfl ?_
  refine J.end ?_
  refine X.then ?_
  refine T.seq ?_
  refine T.text [.l, .l, .l] rfl ?_
  refine J.call fok148 rfl rfl (ι := Nat → Nat) (fun _ => True) (fun γ => .agg (Wg.fvsOf γ).toArray) [] (fun γ => sh (Wg.entsOf γ)) (fun w hw => (Wg.works w).mono fun e w2 ⟨γ, he, h2⟩ => ⟨γ, trivial, he, h2⟩) (fun _ _ g hg => by simp at hg) (fun _ _ _ _ => rfl) (fun γ _ => ?_)
  refine J.alloc 10 rfl zero99 [.nilFunc, .nilFunc, .nilFunc, .nilFunc, .nilFunc, .nilFunc, .nilFunc, .nilFunc, .nilFunc, .nilFunc, .nilFunc, .nilFunc, .nilFunc, .nilFunc, .nilFunc, .nilFunc, .nilFunc, .nilFunc, .nilFunc, .nilFunc, .nilFunc, .nilFunc, .nilFunc, .nilFunc, .nilFunc, .nilFunc, .nilFunc, .nilFunc, .nilFunc, .nilFunc, .nilFunc] rfl rfl (fun g10 hg10 => ?_)
  refine J.store 10 rfl rfl rfl rfl (Wg.fvsOf γ) rfl sz99 (by first | decide | exact Nat.le_refl _ | exact Nat.le_of_ble_eq_true rfl | (simp [rowN]; done) | (simp [rowN]; omega)) (Wg.fvs_one _) (by first | decide | exact Nat.zero_lt_succ _ | simp) trivial (Wg.fvsOf γ) rfl ?_
  refine J.end ?_
  refine X.then ?_
  refine T.seq ?_
  refine T.seq ?_
  refine T.text [.l, .l, .l, .l, .l, .l, .l, .l, .l, .l, .l, .l] rfl ?_
  refine J.move rfl rfl ?_
  refine J.lss rfl rfl rfl rfl ?_
  refine J.move rfl rfl ?_
  refine J.split 14 rfl (fun h1 => ?_) (fun h1 => ?_)
  · skip
    refine J.no rfl rfl rfl rfl ?_
    refine J.no rfl rfl rfl rfl ?_
    refine J.pick_t rfl rfl rfl ?_
    refine J.move rfl rfl ?_
    refine J.no rfl rfl rfl rfl ?_
    refine J.no rfl rfl rfl rfl ?_
    refine J.no rfl rfl rfl rfl ?_
    refine J.no rfl rfl rfl rfl ?_
    refine J.pick_t rfl rfl rfl ?_
    refine J.end ?_
    refine X.then ?_
    refine T.cond_true rfl ?_
    refine T.seq ?_
    refine T.text [.l, .l, .l] rfl ?_
    refine J.build rfl rfl (W 0) (fun w => by kernel_rfl) ?_
    refine J.store 8 rfl rfl rfl rfl (wc 0) rfl sz24 (by first | decide | exact Nat.le_refl _ | exact Nat.le_of_ble_eq_true rfl | (simp [rowN]; done) | (simp [rowN]; omega)) (by first | exact rowN_one _ _ | (simp; done) | (intro u hu; simp at hu; subst hu; rfl) | (intro u hu; simp at hu; rcases hu with rfl | rfl <;> rfl)) (by first | decide | exact Nat.zero_lt_succ _ | simp) trivial (wc 0) rfl ?_
    refine J.assign rfl rfl ?_
    refine J.end ?_
    refine X.then ?_
    refine T.ret ?_
    refine X.then_ret ?_
    exact X.ret2 rfl (RV.agg 8 rfl rfl agg24 (wc 0) (by rfl) (by rfl) rfl) (RV.tmp rfl) (fun w' hw' => ⟨rfl, hw'.sub (Sub.nil _)⟩)
  · skip
    refine J.yes rfl rfl ?_
    refine J.move rfl rfl ?_
    refine J.yes rfl rfl ?_
    refine J.geq rfl rfl rfl (decide_eq_true (by first | omega | rfl | assumption | (simp only [*]; done))) ?_
    refine J.pick_f rfl rfl rfl ?_
    refine J.move rfl rfl ?_
    refine J.no rfl rfl rfl rfl ?_
    refine J.no rfl rfl rfl rfl ?_
    refine J.no rfl rfl rfl rfl ?_
    refine J.no rfl rfl rfl rfl ?_
    refine J.pick_t rfl rfl rfl ?_
    refine J.end ?_
    refine X.then ?_
    refine T.cond_true rfl ?_
    refine T.seq ?_
    refine T.text [.l, .l, .l] rfl ?_
    refine J.build rfl rfl (W 0) (fun w => by kernel_rfl) ?_
    refine J.store 8 rfl rfl rfl rfl (wc 0) rfl sz24 (by first | decide | exact Nat.le_refl _ | exact Nat.le_of_ble_eq_true rfl | (simp [rowN]; done) | (simp [rowN]; omega)) (by first | exact rowN_one _ _ | (simp; done) | (intro u hu; simp at hu; subst hu; rfl) | (intro u hu; simp at hu; rcases hu with rfl | rfl <;> rfl)) (by first | decide | exact Nat.zero_lt_succ _ | simp) trivial (wc 0) rfl ?_
    refine J.assign rfl rfl ?_
    refine J.end ?_
    refine X.then ?_
    refine T.ret ?_
    refine X.then_ret ?_
    exact X.ret2 rfl (RV.agg 8 rfl rfl agg24 (wc 0) (by rfl) (by rfl) rfl) (RV.tmp rfl) (fun w' hw' => ⟨rfl, hw'.sub (Sub.nil _)⟩)
end Go.Proofs.YtegociefcfcihaaDoor.Wh
set_option linter.unusedVariables false
set_option maxRecDepth 20000
namespace Go.Proofs.YtegociefcfcihaaDoor.Wt
open Go Go.Fw

theorem sz39 : SizeT Tryd.prog 39 32 := (by unfold SizeT; kernel_rfl)
theorem zero8 : ZeroT Tryd.prog 67 (.agg (rowN .u64 (lg 0)).toArray) := (by unfold ZeroT; kernel_rfl)
theorem one25 : OneT Tryd.prog 25 := ⟨⟨_, Tryd.underlying25, rfl⟩, by kernel_rfl⟩
theorem one27 : OneT Tryd.prog 27 := ⟨⟨_, Tryd.underlying27, rfl⟩, by kernel_rfl⟩
theorem fok153 : FnOk Tryd.prog 153 := FnOk.mk' Tryd.func153 (by kernel_rfl) rfl
theorem fok23 : FnOk Tryd.prog 23 := FnOk.mk' Tryd.func23 (by kernel_rfl) rfl
theorem fok27 : FnOk Tryd.prog 27 := FnOk.mk' Tryd.func27 (by kernel_rfl) rfl
theorem fok25 : FnOk Tryd.prog 25 := FnOk.mk' Tryd.func25 (by kernel_rfl) rfl
theorem fok29 : FnOk Tryd.prog 29 := FnOk.mk' Tryd.func29 (by kernel_rfl) rfl
theorem fok34 : FnOk Tryd.prog 34 := FnOk.mk' Tryd.func34 (by kernel_rfl) rfl
theorem fok31 : FnOk Tryd.prog 31 := FnOk.mk' Tryd.func31 (by kernel_rfl) rfl
theorem fok36 : FnOk Tryd.prog 36 := FnOk.mk' Tryd.func36 (by kernel_rfl) rfl
theorem fok46 : FnOk Tryd.prog 46 := FnOk.mk' Tryd.func46 (by kernel_rfl) rfl
theorem fok48 : FnOk Tryd.prog 48 := FnOk.mk' Tryd.func48 (by kernel_rfl) rfl
theorem fok50 : FnOk Tryd.prog 50 := FnOk.mk' Tryd.func50 (by kernel_rfl) rfl
theorem fok44 : FnOk Tryd.prog 44 := FnOk.mk' Tryd.func44 (by kernel_rfl) rfl
theorem fok155 : FnOk Tryd.prog 155 := FnOk.mk' Tryd.func155 (by kernel_rfl) rfl
theorem fok54 : FnOk Tryd.prog 54 := FnOk.mk' Tryd.func54 (by kernel_rfl) rfl
theorem fok55 : FnOk Tryd.prog 55 := FnOk.mk' Tryd.func55 (by kernel_rfl) rfl
theorem fok38 : FnOk Tryd.prog 38 := FnOk.mk' Tryd.func38 (by kernel_rfl) rfl
theorem fok40 : FnOk Tryd.prog 40 := FnOk.mk' Tryd.func40 (by kernel_rfl) rfl
theorem fok79 : FnOk Tryd.prog 79 := FnOk.mk' Tryd.func79 (by kernel_rfl) rfl
theorem fok157 : FnOk Tryd.prog 157 := FnOk.mk' Tryd.func157 (by kernel_rfl) rfl
theorem fok62 : FnOk Tryd.prog 62 := FnOk.mk' Tryd.func62 (by kernel_rfl) rfl
theorem fok64 : FnOk Tryd.prog 64 := FnOk.mk' Tryd.func64 (by kernel_rfl) rfl
theorem fok66 : FnOk Tryd.prog 66 := FnOk.mk' Tryd.func66 (by kernel_rfl) rfl
theorem fok158 : FnOk Tryd.prog 158 := FnOk.mk' Tryd.func158 (by kernel_rfl) rfl
theorem fok69 : FnOk Tryd.prog 69 := FnOk.mk' Tryd.func69 (by kernel_rfl) rfl
theorem fok59 : FnOk Tryd.prog 59 := FnOk.mk' Tryd.func59 (by kernel_rfl) rfl
theorem fok60 : FnOk Tryd.prog 60 := FnOk.mk' Tryd.func60 (by kernel_rfl) rfl
theorem fok42 : FnOk Tryd.prog 42 := FnOk.mk' Tryd.func42 (by kernel_rfl) rfl
theorem fok159 : FnOk Tryd.prog 159 := FnOk.mk' Tryd.func159 (by kernel_rfl) rfl
theorem func98T : FuncT Tryd.prog 98 := ⟨_, _, _, Tryd.underlying98⟩
theorem fok148 : FnOk Tryd.prog 148 := FnOk.mk' Tryd.func148 (by kernel_rfl) rfl
theorem fok161 : FnOk Tryd.prog 161 := FnOk.mk' Tryd.func161 (by kernel_rfl) rfl
theorem fok151 : FnOk Tryd.prog 151 := FnOk.mk' Tryd.func151 (by kernel_rfl) rfl
theorem agg24 : AggT Tryd.prog 24 4 := ⟨⟨_, Tryd.underlying24, rfl⟩, by kernel_rfl⟩
theorem fok117 : FnOk Tryd.prog 117 := FnOk.mk' Tryd.func117 (by kernel_rfl) rfl
theorem fok116 : FnOk Tryd.prog 116 := FnOk.mk' Tryd.func116 (by kernel_rfl) rfl
theorem zero24 : ZeroT Tryd.prog 24 (.agg ([.int .u64 0, .int .u64 0, .int .u64 0, .int .u64 0]).toArray) := (by unfold ZeroT; kernel_rfl)
theorem sz24 : SizeT Tryd.prog 24 4 := (by unfold SizeT; kernel_rfl)
theorem sz22 : SizeT Tryd.prog 22 1 := (by unfold SizeT; kernel_rfl)
theorem arr24 : ArrT Tryd.prog 24 4 22 1 := ⟨Tryd.underlying24, sz22⟩
theorem one22 : OneT Tryd.prog 22 := ⟨⟨_, Tryd.underlying22, rfl⟩, by kernel_rfl⟩
theorem fok141 : FnOk Tryd.prog 141 := FnOk.mk' Tryd.func141 (by kernel_rfl) rfl
theorem fok81 : FnOk Tryd.prog 81 := FnOk.mk' Tryd.func81 (by kernel_rfl) rfl

theorem small2 (w : World) :
    Calls Tryd.prog 161 [.int .i64 2].toArray w fun e w' => e = .returned (.string (bstr [50])) ∧ WS w [] [] w' := by
  refine calls_of_T [] 15 [] Tryd.func161 rfl Tryd.ntmps161 (by simp) (WS.refl _ _) ?_
  refine T.seq ?_
  refine T.text [.l] rfl ?_
  refine J.assign rfl rfl ?_
  refine J.as 2 (.string (bstr [])) rfl rfl ?_
  refine J.end ?_
  refine X.then ?_
  refine T.seq ?_
  refine T.seq ?_
  refine T.text [.l, .l] rfl ?_
  refine J.move rfl rfl ?_
  refine J.lss rfl rfl rfl (decide_eq_true (by first | omega | rfl | assumption | (simp only [*]; done))) ?_
  refine J.end ?_
  refine X.then ?_
  refine T.cond_true rfl ?_
  refine T.seq ?_
  refine T.text [.l, .l, .l, .l, .l] rfl ?_
  refine J.move rfl rfl ?_
  refine J.move rfl rfl ?_
  refine J.add rfl rfl rfl (by first | exact add_nat _ 1 (by omega) | exact i64_ok _ (by omega) | exact rfl) ?_
  refine J.sliceStr Tryd.underlying9 rfl (optInt.some rfl (by omega) (by first | exact Int.toNat_natCast _ | rfl)) (optInt.some rfl (by omega) (by first | exact Int.toNat_natCast _ | rfl)) (by decide) (by decide) rfl ?_
  refine J.as 8 (.string (bstr [50])) rfl (by rfl) ?_
  refine J.assign rfl rfl ?_
  refine J.end ?_
  refine X.then ?_
  refine T.ret ?_
  refine X.then_ret ?_
  exact X.ret1 rfl (RV.tmp rfl) (fun w' hw' => ⟨rfl, hw'.sub (Sub.nil _)⟩)

theorem fmt2 (w : World) :
    Calls Tryd.prog 151 [.int .u64 2, .int .i64 10].toArray w fun e w' => e = .returned (.string (bstr [50])) ∧ WS w [] [] w' := by
  refine calls_of_T [] 32 [] Tryd.func151 rfl Tryd.ntmps151 (by simp) (WS.refl _ _) ?_
  refine T.seq ?_
  refine T.text [.l] rfl ?_
  refine J.assign rfl rfl ?_
  refine J.as 4 (.string (bstr [])) rfl rfl ?_
  refine J.end ?_
  refine X.then ?_
  refine T.seq ?_
  refine T.seq ?_
  refine T.text [.l, .l] rfl ?_
  refine J.move rfl rfl ?_
  refine J.eql rfl rfl rfl (decide_eq_true (by first | omega | rfl | assumption | (simp only [*]; done))) ?_
  refine J.end ?_
  refine X.then ?_
  refine T.cond_true rfl ?_
  refine T.seq ?_
  refine T.seq ?_
  refine T.text [.l, .l] rfl ?_
  refine J.move rfl rfl ?_
  refine J.lss rfl rfl rfl (decide_eq_true (by first | omega | rfl | assumption | (simp only [*]; done))) ?_
  refine J.end ?_
  refine X.then ?_
  refine T.cond_true rfl ?_
  refine T.seq ?_
  refine T.text [.l, .l, .l, .l] rfl ?_
  refine J.move rfl rfl ?_
  refine J.conv (by rw [Tryd.underlying22]; rfl) Tryd.underlying3 rfl rfl (by first | exact wrap_nat64 _ (by omega) | exact i64_ok _ (by omega) | exact rfl) ?_
  refine J.call0 (k := .l) trivial fok161 rfl rfl (fun w hw => Wt.small2 w) ?_
  refine J.assign rfl rfl ?_
  refine J.end ?_
  refine X.then ?_
  refine T.ret ?_
  refine X.then_ret (X.then_ret ?_)
  exact X.ret1 rfl (RV.tmp rfl) (fun w' hw' => ⟨rfl, hw'.sub (Sub.nil _)⟩)

theorem format2 (w : World) :
    Calls Tryd.prog 141 [.int .u64 2, .int .i64 10].toArray w fun e w' => e = .returned (.string (bstr [50])) ∧ WS w [] [] w' := by
  refine calls_of_T [] 8 [] Tryd.func141 rfl Tryd.ntmps141 (by simp) (WS.refl _ _) ?_
  refine T.seq ?_
  refine T.text [.l] rfl ?_
  refine J.assign rfl rfl ?_
  refine J.as 4 (.string (bstr [])) rfl rfl ?_
  refine J.end ?_
  refine X.then ?_
  refine T.seq ?_
  refine T.text [.l, .l, .l, .l] rfl ?_
  refine J.move rfl rfl ?_
  refine J.move rfl rfl ?_
  refine J.call0 (k := .l) trivial fok151 rfl rfl (fun w hw => Wt.fmt2 w) ?_
  refine J.assign rfl rfl ?_
  refine J.end ?_
  refine X.then ?_
  refine T.ret ?_
  exact X.ret1 rfl (RV.tmp rfl) (fun w' hw' => ⟨rfl, hw'.sub (Sub.nil _)⟩)

theorem text2 (w : World) :
    Calls Tryd.prog 105 [W 2].toArray w fun e w' => e = .returned (.string (bstr [50])) ∧ WS w [] [] w' := by
  refine calls_of_T [] 31 [] Tryd.func105 rfl Tryd.ntmps105 (by simp) (WS.refl _ _) ?_
  refine T.seq ?_
  refine T.text [.l, .l] rfl ?_
  refine J.box 1 rfl rfl (wc 2) rfl rfl (fun g1 hg1 => ?_)
  refine J.assign rfl rfl ?_
  refine J.as 2 (.string (bstr [])) rfl rfl ?_
  refine J.end ?_
  refine X.then ?_
  refine T.seq ?_
  refine T.text [.l] rfl ?_
  refine J.assign rfl rfl ?_
  refine J.as 3 (.string (bstr [])) rfl rfl ?_
  refine J.end ?_
  refine X.then ?_
  refine T.block ?_
  refine T.loop (ι := Unit) (fun (_ : Unit) => True) (fun (_ : Unit) => [(0, W 2), (1, .pointer (some ⟨g1, 0, none⟩)), (3, .string (bstr []))]) (fun (_ : Unit) => [(1, ⟨some g1, 24, wc 2⟩)]) (fun (_ : Unit) => 0) () trivial (by repeat (first | exact Sub.nil _ | refine Sub.cons (by first | rfl | (rw [dgs_zero]; rfl) | (rw [List.drop_length]; rfl) | (simp; done) | (congr 2; omega) | (congr 3; omega)) ?_)) (by repeat (first | exact Sub.nil _ | refine Sub.cons (by first | rfl | (rw [dgs_zero]; rfl) | (rw [List.drop_length]; rfl) | (simp; done) | (congr 2; omega) | (congr 3; omega)) ?_)) ?_
  rintro _ _
  refine T.block ?_
  refine T.seq ?_
  refine T.text [.l, .l, .l, .l, .l, .l, .l, .l, .l, .l, .l] rfl ?_
  refine J.loadN (k := .l) trivial 1 rfl rfl agg24 (wc 2) rfl rfl rfl ?_
  refine J.call0 (k := .l) trivial fok117 rfl rfl (fun w hw => Wb.wide w _ 0 (by omega)) ?_
  refine J.build rfl rfl (W 10000000000000000000) (fun w => by kernel_rfl) ?_
  refine J.call0 (k := .l) trivial fok116 rfl rfl (fun w hw => Wd.divide w _ _ (by omega) (by omega)) ?_
  refine J.move rfl rfl ?_
  refine J.extract rfl rfl rfl ?_
  refine J.extract rfl rfl rfl ?_
  refine J.alloc 4 rfl zero24 [.int .u64 0, .int .u64 0, .int .u64 0, .int .u64 0] rfl rfl (fun g4 hg4 => ?_)
  refine J.alloc 5 rfl zero24 [.int .u64 0, .int .u64 0, .int .u64 0, .int .u64 0] rfl rfl (fun g5 hg5 => ?_)
  refine J.store 4 rfl rfl rfl rfl (wc (((2 % 2 ^ 256 + 0 * 2 ^ 256)) / (10000000000000000000 % 2 ^ 256))) rfl sz24 (by first | decide | exact Nat.le_refl _ | exact Nat.le_of_ble_eq_true rfl | (simp [rowN]; done) | (simp [rowN]; omega)) (by first | exact rowN_one _ _ | (simp; done) | (intro u hu; simp at hu; subst hu; rfl) | (intro u hu; simp at hu; rcases hu with rfl | rfl <;> rfl)) (by first | decide | exact Nat.zero_lt_succ _ | simp) trivial (wc (((2 % 2 ^ 256 + 0 * 2 ^ 256)) / (10000000000000000000 % 2 ^ 256))) rfl ?_
  refine J.store 5 rfl rfl rfl rfl (wc (((2 % 2 ^ 256 + 0 * 2 ^ 256)) % (10000000000000000000 % 2 ^ 256))) rfl sz24 (by first | decide | exact Nat.le_refl _ | exact Nat.le_of_ble_eq_true rfl | (simp [rowN]; done) | (simp [rowN]; omega)) (by first | exact rowN_one _ _ | (simp; done) | (intro u hu; simp at hu; subst hu; rfl) | (intro u hu; simp at hu; rcases hu with rfl | rfl <;> rfl)) (by first | decide | exact Nat.zero_lt_succ _ | simp) trivial (wc (((2 % 2 ^ 256 + 0 * 2 ^ 256)) % (10000000000000000000 % 2 ^ 256))) rfl ?_
  refine J.end ?_
  refine X.then ?_
  refine T.seq ?_
  refine T.text [.l, .l, .l, .l] rfl ?_
  refine J.indexArr arr24 rfl rfl (by omega) (by omega) (by rfl) rfl ?_
  refine J.load1 (k := .l) trivial 5 rfl rfl one22 (by first | rfl | with_reducible exact rowN_get0 _ _ _ (by omega) | with_reducible exact rowN_get1 _ _ _ (by omega) | with_reducible exact rowN_get1s _ _ _ _ (by omega) | exact rowN_get1 _ _ _ (by omega) | exact rowN_get1s _ _ _ _ (by omega) | exact rowN_get0 _ _ _ (by omega)) rfl ?_
  refine J.as 15 (.int .u64 2) rfl (by rfl) ?_
  refine J.call0 (k := .l) trivial fok141 rfl rfl (fun w hw => Wt.format2 w) ?_
  refine J.assign rfl rfl ?_
  refine J.end ?_
  refine X.then ?_
  refine T.seq ?_
  refine T.seq ?_
  refine T.text [.l, .l] rfl ?_
  refine J.loadN (k := .l) trivial 4 rfl rfl agg24 (wc (((2 % 2 ^ 256 + 0 * 2 ^ 256)) / (10000000000000000000 % 2 ^ 256))) rfl rfl rfl ?_
  refine J.call0 (k := .l) trivial fok81 rfl rfl (fun w hw => Wa.IsZero w _) ?_
  refine J.as 18 (.bool true) rfl (by rw [decide_eq_true (by first | omega | rfl | assumption | (simp only [*]; done))]) ?_
  refine J.end ?_
  refine X.then ?_
  refine T.cond_true rfl ?_
  refine T.seq ?_
  refine T.text [.l, .l, .l, .l] rfl ?_
  refine J.move rfl rfl ?_
  refine J.move rfl rfl ?_
  refine J.addStr (xs := [50]) (ys := []) rfl rfl rfl (by decide) ?_
  refine J.assign rfl rfl ?_
  refine J.end ?_
  refine X.then ?_
  refine T.ret ?_
  refine X.then_ret (X.inBlock_ret (X.then_ret (X.inBlock_ret ?_)))
  exact X.ret1 rfl (RV.tmp rfl) (fun w' hw' => ⟨rfl, hw'.sub (Sub.nil _)⟩)
end Go.Proofs.YtegociefcfcihaaDoor.Wt
set_option linter.unusedVariables false
set_option maxRecDepth 20000
namespace Go.Proofs.YtegociefcfcihaaDoor.Wk
open Go Go.Fw

theorem sz39 : SizeT Tryd.prog 39 32 := (by unfold SizeT; kernel_rfl)
theorem zero8 : ZeroT Tryd.prog 67 (.agg (rowN .u64 (lg 0)).toArray) := (by unfold ZeroT; kernel_rfl)
theorem one25 : OneT Tryd.prog 25 := ⟨⟨_, Tryd.underlying25, rfl⟩, by kernel_rfl⟩
theorem one27 : OneT Tryd.prog 27 := ⟨⟨_, Tryd.underlying27, rfl⟩, by kernel_rfl⟩
theorem fok153 : FnOk Tryd.prog 153 := FnOk.mk' Tryd.func153 (by kernel_rfl) rfl
theorem fok23 : FnOk Tryd.prog 23 := FnOk.mk' Tryd.func23 (by kernel_rfl) rfl
theorem fok27 : FnOk Tryd.prog 27 := FnOk.mk' Tryd.func27 (by kernel_rfl) rfl
theorem fok25 : FnOk Tryd.prog 25 := FnOk.mk' Tryd.func25 (by kernel_rfl) rfl
theorem fok29 : FnOk Tryd.prog 29 := FnOk.mk' Tryd.func29 (by kernel_rfl) rfl
theorem fok34 : FnOk Tryd.prog 34 := FnOk.mk' Tryd.func34 (by kernel_rfl) rfl
theorem fok31 : FnOk Tryd.prog 31 := FnOk.mk' Tryd.func31 (by kernel_rfl) rfl
theorem fok36 : FnOk Tryd.prog 36 := FnOk.mk' Tryd.func36 (by kernel_rfl) rfl
theorem fok46 : FnOk Tryd.prog 46 := FnOk.mk' Tryd.func46 (by kernel_rfl) rfl
theorem fok48 : FnOk Tryd.prog 48 := FnOk.mk' Tryd.func48 (by kernel_rfl) rfl
theorem fok50 : FnOk Tryd.prog 50 := FnOk.mk' Tryd.func50 (by kernel_rfl) rfl
theorem fok44 : FnOk Tryd.prog 44 := FnOk.mk' Tryd.func44 (by kernel_rfl) rfl
theorem fok155 : FnOk Tryd.prog 155 := FnOk.mk' Tryd.func155 (by kernel_rfl) rfl
theorem fok54 : FnOk Tryd.prog 54 := FnOk.mk' Tryd.func54 (by kernel_rfl) rfl
theorem fok55 : FnOk Tryd.prog 55 := FnOk.mk' Tryd.func55 (by kernel_rfl) rfl
theorem fok38 : FnOk Tryd.prog 38 := FnOk.mk' Tryd.func38 (by kernel_rfl) rfl
theorem fok40 : FnOk Tryd.prog 40 := FnOk.mk' Tryd.func40 (by kernel_rfl) rfl
theorem fok79 : FnOk Tryd.prog 79 := FnOk.mk' Tryd.func79 (by kernel_rfl) rfl
theorem fok157 : FnOk Tryd.prog 157 := FnOk.mk' Tryd.func157 (by kernel_rfl) rfl
theorem fok62 : FnOk Tryd.prog 62 := FnOk.mk' Tryd.func62 (by kernel_rfl) rfl
theorem fok64 : FnOk Tryd.prog 64 := FnOk.mk' Tryd.func64 (by kernel_rfl) rfl
theorem fok66 : FnOk Tryd.prog 66 := FnOk.mk' Tryd.func66 (by kernel_rfl) rfl
theorem fok158 : FnOk Tryd.prog 158 := FnOk.mk' Tryd.func158 (by kernel_rfl) rfl
theorem fok69 : FnOk Tryd.prog 69 := FnOk.mk' Tryd.func69 (by kernel_rfl) rfl
theorem fok59 : FnOk Tryd.prog 59 := FnOk.mk' Tryd.func59 (by kernel_rfl) rfl
theorem fok60 : FnOk Tryd.prog 60 := FnOk.mk' Tryd.func60 (by kernel_rfl) rfl
theorem fok42 : FnOk Tryd.prog 42 := FnOk.mk' Tryd.func42 (by kernel_rfl) rfl
theorem fok159 : FnOk Tryd.prog 159 := FnOk.mk' Tryd.func159 (by kernel_rfl) rfl
theorem func98T : FuncT Tryd.prog 98 := ⟨_, _, _, Tryd.underlying98⟩
theorem fok148 : FnOk Tryd.prog 148 := FnOk.mk' Tryd.func148 (by kernel_rfl) rfl
theorem zero24 : ZeroT Tryd.prog 24 (.agg ([.int .u64 0, .int .u64 0, .int .u64 0, .int .u64 0]).toArray) := (by unfold ZeroT; kernel_rfl)
theorem sz24 : SizeT Tryd.prog 24 4 := (by unfold SizeT; kernel_rfl)
theorem agg24 : AggT Tryd.prog 24 4 := ⟨⟨_, Tryd.underlying24, rfl⟩, by kernel_rfl⟩
theorem fok120 : FnOk Tryd.prog 120 := FnOk.mk' Tryd.func120 (by kernel_rfl) rfl
theorem sz22 : SizeT Tryd.prog 22 1 := (by unfold SizeT; kernel_rfl)
theorem arr24 : ArrT Tryd.prog 24 4 22 1 := ⟨Tryd.underlying24, sz22⟩
theorem one22 : OneT Tryd.prog 22 := ⟨⟨_, Tryd.underlying22, rfl⟩, by kernel_rfl⟩
theorem eqw24 : EqT Tryd.prog 24 := ⟨⟨22, arr24, one22, Tryd.underlying22⟩, by kernel_rfl⟩
theorem fok105 : FnOk Tryd.prog 105 := FnOk.mk' Tryd.func105 (by kernel_rfl) rfl
theorem fok53 : FnOk Tryd.prog 53 := FnOk.mk' Tryd.func53 (by kernel_rfl) rfl
theorem fok85 : FnOk Tryd.prog 85 := FnOk.mk' Tryd.func85 (by kernel_rfl) rfl
theorem fok57 : FnOk Tryd.prog 57 := FnOk.mk' Tryd.func57 (by kernel_rfl) rfl

theorem one (w : World) :
    Calls Tryd.prog 52 [].toArray w fun e w' => e = .returned (W (1)) ∧ WS w [] [] w' := by
  refine calls_of_T [] 2 [] Tryd.func52 rfl Tryd.ntmps52 (by simp) (WS.refl _ _) ?_
  refine T.seq ?_
  refine T.text [.l] rfl ?_
  refine J.alloc 0 rfl zero24 [.int .u64 0, .int .u64 0, .int .u64 0, .int .u64 0] rfl rfl (fun g0 hg0 => ?_)
  refine J.end ?_
  refine X.then ?_
  refine T.seq ?_
  refine T.text [.l, .l] rfl ?_
  refine J.build rfl rfl (W 1) (fun w => by kernel_rfl) ?_
  refine J.store 0 rfl rfl rfl rfl (wc 1) rfl sz24 (by first | decide | exact Nat.le_refl _ | exact Nat.le_of_ble_eq_true rfl | (simp [rowN]; done) | (simp [rowN]; omega)) (by first | exact rowN_one _ _ | (simp; done) | (intro u hu; simp at hu; subst hu; rfl) | (intro u hu; simp at hu; rcases hu with rfl | rfl <;> rfl)) (by first | decide | exact Nat.zero_lt_succ _ | simp) trivial (wc 1) rfl ?_
  refine J.end ?_
  refine X.then ?_
  refine T.ret ?_
  exact X.ret1 rfl (RV.agg 0 rfl rfl agg24 (wc 1) (by rfl) (by rfl) rfl) (fun w' hw' => ⟨rfl, hw'.sub (Sub.nil _)⟩)

theorem two (w : World) :
    Calls Tryd.prog 58 [].toArray w fun e w' => e = .returned (W (2)) ∧ WS w [] [] w' := by
  refine calls_of_T [] 2 [] Tryd.func58 rfl Tryd.ntmps58 (by simp) (WS.refl _ _) ?_
  refine T.seq ?_
  refine T.text [.l] rfl ?_
  refine J.alloc 0 rfl zero24 [.int .u64 0, .int .u64 0, .int .u64 0, .int .u64 0] rfl rfl (fun g0 hg0 => ?_)
  refine J.end ?_
  refine X.then ?_
  refine T.seq ?_
  refine T.text [.l, .l] rfl ?_
  refine J.build rfl rfl (W 2) (fun w => by kernel_rfl) ?_
  refine J.store 0 rfl rfl rfl rfl (wc 2) rfl sz24 (by first | decide | exact Nat.le_refl _ | exact Nat.le_of_ble_eq_true rfl | (simp [rowN]; done) | (simp [rowN]; omega)) (by first | exact rowN_one _ _ | (simp; done) | (intro u hu; simp at hu; subst hu; rfl) | (intro u hu; simp at hu; rcases hu with rfl | rfl <;> rfl)) (by first | decide | exact Nat.zero_lt_succ _ | simp) trivial (wc 2) rfl ?_
  refine J.end ?_
  refine X.then ?_
  refine T.ret ?_
  exact X.ret1 rfl (RV.agg 0 rfl rfl agg24 (wc 2) (by rfl) (by rfl) rfl) (fun w' hw' => ⟨rfl, hw'.sub (Sub.nil _)⟩)

theorem most (w : World) :
    Calls Tryd.prog 53 [].toArray w fun e w' => e = .returned (W (115792089237316195423570985008687907853269984665640564039457584007913129639935)) ∧ WS w [] [] w' := by
  refine calls_of_T [] 2 [] Tryd.func53 rfl Tryd.ntmps53 (by simp) (WS.refl _ _) ?_
  refine T.seq ?_
  refine T.text [.l] rfl ?_
  refine J.alloc 0 rfl zero24 [.int .u64 0, .int .u64 0, .int .u64 0, .int .u64 0] rfl rfl (fun g0 hg0 => ?_)
  refine J.end ?_
  refine X.then ?_
  refine T.seq ?_
  refine T.text [.l, .l] rfl ?_
  refine J.build rfl rfl (W 115792089237316195423570985008687907853269984665640564039457584007913129639935) (fun w => by kernel_rfl) ?_
  refine J.store 0 rfl rfl rfl rfl (wc 115792089237316195423570985008687907853269984665640564039457584007913129639935) rfl sz24 (by first | decide | exact Nat.le_refl _ | exact Nat.le_of_ble_eq_true rfl | (simp [rowN]; done) | (simp [rowN]; omega)) (by first | exact rowN_one _ _ | (simp; done) | (intro u hu; simp at hu; subst hu; rfl) | (intro u hu; simp at hu; rcases hu with rfl | rfl <;> rfl)) (by first | decide | exact Nat.zero_lt_succ _ | simp) trivial (wc 115792089237316195423570985008687907853269984665640564039457584007913129639935) rfl ?_
  refine J.end ?_
  refine X.then ?_
  refine T.ret ?_
  exact X.ret1 rfl (RV.agg 0 rfl rfl agg24 (wc 115792089237316195423570985008687907853269984665640564039457584007913129639935) (by rfl) (by rfl) rfl) (fun w' hw' => ⟨rfl, hw'.sub (Sub.nil _)⟩)

theorem top (w : World) :
    Calls Tryd.prog 85 [].toArray w fun e w' => e = .returned (W (57896044618658097711785492504343953926634992332820282019728792003956564819968)) ∧ WS w [] [] w' := by
  refine calls_of_T [] 2 [] Tryd.func85 rfl Tryd.ntmps85 (by simp) (WS.refl _ _) ?_
  refine T.seq ?_
  refine T.text [.l] rfl ?_
  refine J.alloc 0 rfl zero24 [.int .u64 0, .int .u64 0, .int .u64 0, .int .u64 0] rfl rfl (fun g0 hg0 => ?_)
  refine J.end ?_
  refine X.then ?_
  refine T.seq ?_
  refine T.text [.l, .l] rfl ?_
  refine J.build rfl rfl (W 57896044618658097711785492504343953926634992332820282019728792003956564819968) (fun w => by kernel_rfl) ?_
  refine J.store 0 rfl rfl rfl rfl (wc 57896044618658097711785492504343953926634992332820282019728792003956564819968) rfl sz24 (by first | decide | exact Nat.le_refl _ | exact Nat.le_of_ble_eq_true rfl | (simp [rowN]; done) | (simp [rowN]; omega)) (by first | exact rowN_one _ _ | (simp; done) | (intro u hu; simp at hu; subst hu; rfl) | (intro u hu; simp at hu; rcases hu with rfl | rfl <;> rfl)) (by first | decide | exact Nat.zero_lt_succ _ | simp) trivial (wc 57896044618658097711785492504343953926634992332820282019728792003956564819968) rfl ?_
  refine J.end ?_
  refine X.then ?_
  refine T.ret ?_
  exact X.ret1 rfl (RV.agg 0 rfl rfl agg24 (wc 57896044618658097711785492504343953926634992332820282019728792003956564819968) (by rfl) (by rfl) rfl) (fun w' hw' => ⟨rfl, hw'.sub (Sub.nil _)⟩)

theorem awake (w : World) :
    Calls Tryd.prog 33 [].toArray w fun e w' => e = .returned (.bool true) ∧ WS w [] [] w' := by
  refine calls_of_T [] 30 [] Tryd.func33 rfl Tryd.ntmps33 (by simp) (WS.refl _ _) ?_
  refine T.seq ?_
  refine T.text [.l] rfl ?_
  refine J.assign rfl rfl ?_
  refine J.end ?_
  refine X.then ?_
  refine T.seq ?_
  refine T.text [.l, .l, .l] rfl ?_
  refine J.build rfl rfl (W 2) (fun w => by kernel_rfl) ?_
  refine J.alloc 1 rfl zero24 [.int .u64 0, .int .u64 0, .int .u64 0, .int .u64 0] rfl rfl (fun g1 hg1 => ?_)
  refine J.store 1 rfl rfl rfl rfl (wc 2) rfl sz24 (by first | decide | exact Nat.le_refl _ | exact Nat.le_of_ble_eq_true rfl | (simp [rowN]; done) | (simp [rowN]; omega)) (by first | exact rowN_one _ _ | (simp; done) | (intro u hu; simp at hu; subst hu; rfl) | (intro u hu; simp at hu; rcases hu with rfl | rfl <;> rfl)) (by first | decide | exact Nat.zero_lt_succ _ | simp) trivial (wc 2) rfl ?_
  refine J.end ?_
  refine X.then ?_
  refine T.seq ?_
  refine T.text [.l, .l, .l, .l, .l, .l, .l, .l, .l, .l] rfl ?_
  refine J.loadN (k := .l) trivial 1 rfl rfl agg24 (wc 2) rfl rfl rfl ?_
  refine J.loadN (k := .l) trivial 1 rfl rfl agg24 (wc 2) rfl rfl rfl ?_
  refine J.loadN (k := .l) trivial 1 rfl rfl agg24 (wc 2) rfl rfl rfl ?_
  refine J.call0 (k := .l) trivial fok120 rfl rfl (fun w hw => Wh.DoYes w 1 _ _ _ _ rfl) ?_
  refine J.move rfl rfl ?_
  refine J.extract rfl rfl rfl ?_
  refine J.extract rfl rfl rfl ?_
  refine J.alloc 2 rfl zero24 [.int .u64 0, .int .u64 0, .int .u64 0, .int .u64 0] rfl rfl (fun g2 hg2 => ?_)
  refine J.store 2 rfl rfl rfl rfl (wc (2 + 2)) rfl sz24 (by first | decide | exact Nat.le_refl _ | exact Nat.le_of_ble_eq_true rfl | (simp [rowN]; done) | (simp [rowN]; omega)) (by first | exact rowN_one _ _ | (simp; done) | (intro u hu; simp at hu; subst hu; rfl) | (intro u hu; simp at hu; rcases hu with rfl | rfl <;> rfl)) (by first | decide | exact Nat.zero_lt_succ _ | simp) trivial (wc (2 + 2)) rfl ?_
  refine J.assign rfl rfl ?_
  refine J.end ?_
  refine X.then ?_
  refine T.seq ?_
  refine T.text [.l, .l, .l, .l, .l, .l, .l, .l, .l, .l, .l, .l, .l, .l, .l, .l, .l, .l, .l] rfl ?_
  refine J.loadN (k := .l) trivial 1 rfl rfl agg24 (wc 2) rfl rfl rfl ?_
  refine J.loadN (k := .l) trivial 1 rfl rfl agg24 (wc 2) rfl rfl rfl ?_
  refine J.call0 (k := .l) trivial fok23 rfl rfl (fun w hw => Wb.Add w _ _) ?_
  refine J.build rfl rfl (W 4) (fun w => by kernel_rfl) ?_
  refine J.eqW eqw24 rfl rfl rfl ?_
  refine J.as 16 (.bool true) rfl (by rw [decide_eq_true (by first | omega | rfl | assumption | (simp only [*]; done))]) ?_
  refine J.move rfl rfl ?_
  refine J.yes rfl rfl ?_
  refine J.move rfl rfl ?_
  refine J.pick_t rfl rfl rfl ?_
  refine J.move rfl rfl ?_
  refine J.yes rfl rfl ?_
  refine J.loadN (k := .l) trivial 2 rfl rfl agg24 (wc (2 + 2)) rfl rfl rfl ?_
  refine J.yes rfl rfl ?_
  refine J.build rfl rfl (W 4) (fun w => by kernel_rfl) ?_
  refine J.yes rfl rfl ?_
  refine J.eqW eqw24 rfl rfl rfl ?_
  refine J.as 23 (.bool true) rfl (by rw [decide_eq_true (by first | omega | rfl | assumption | (simp only [*]; done))]) ?_
  refine J.pick_t rfl rfl rfl ?_
  refine J.move rfl rfl ?_
  refine J.yes rfl rfl ?_
  refine J.loadN (k := .l) trivial 1 rfl rfl agg24 (wc 2) rfl rfl rfl ?_
  refine J.yes rfl rfl ?_
  refine J.call0 (k := .l) trivial fok105 rfl rfl (fun w hw => Wt.text2 w) ?_
  refine J.yes rfl rfl ?_
  refine J.eqStr (xs := [50]) (ys := [50]) rfl rfl rfl (by intro u hu; simp at hu; omega) (by intro u hu; simp at hu; omega) ?_
  refine J.as 28 (.bool true) rfl rfl ?_
  refine J.pick_t rfl rfl rfl ?_
  refine J.assign rfl rfl ?_
  refine J.end ?_
  refine X.then ?_
  refine T.ret ?_
  exact X.ret1 rfl (RV.tmp rfl) (fun w' hw' => ⟨rfl, hw'.sub (Sub.nil _)⟩)

theorem sign (w : World) (x0 : Nat) :
    Calls Tryd.prog 57 [W x0].toArray w fun e w' => e = .returned (.bool (decide (sgn x0))) ∧ WS w [] [] w' := by
  refine calls_of_T [] 12 [] Tryd.func57 rfl Tryd.ntmps57 (by simp) (WS.refl _ _) ?_
  refine T.seq ?_
  refine T.text [.l, .l] rfl ?_
  refine J.box 1 rfl rfl (wc x0) rfl rfl (fun g1 hg1 => ?_)
  refine J.assign rfl rfl ?_
  refine J.end ?_
  refine X.then ?_
  refine T.seq ?_
  refine T.draw [] [(0, .q), (1, .q), (2, .q), (3, .g), (4, .q), (5, .q), (6, .q), (7, .g), (8, .g), (9, .g)] (by kernel_rfl) (by kernel_rfl) ?_ (by repeat (first | exact Sub.nil _ | refine Sub.cons (by first | rfl | (rw [dgs_zero]; rfl) | (rw [List.drop_length]; rfl) | (simp; done) | (congr 2; omega) | (congr 3; omega)) ?_))
  refine J.call0 (k := .q) trivial fok53 rfl rfl (fun w hw => Wk.most w) ?_
  refine J.loadN (k := .q) trivial 1 rfl rfl agg24 (wc x0) rfl rfl rfl ?_
  refine J.call0 (k := .q) trivial fok54 rfl rfl (fun w hw => Wa.Lt w _ _) ?_
  refine J.move rfl rfl ?_
  refine J.split 6 rfl (fun h1 => ?_) (fun h1 => ?_)
  · skip
    refine J.no rfl rfl rfl rfl ?_
    refine J.no rfl rfl rfl rfl ?_
    refine J.no rfl rfl rfl rfl ?_
    refine J.no rfl rfl rfl rfl ?_
    refine J.pick_t rfl rfl rfl ?_
    refine J.assign rfl rfl ?_
    refine J.end ?_
    refine X.then ?_
    refine T.ret ?_
    exact X.ret1 rfl (RV.tmp rfl) (fun w' hw' => ⟨by congr 2; exact (decide_eq_true (by unfold sgn; omega)).symm, hw'.sub (Sub.nil _)⟩)
  · skip
    refine J.yes rfl rfl ?_
    refine J.loadN (k := .q) trivial 1 rfl rfl agg24 (wc x0) rfl rfl rfl ?_
    refine J.yes rfl rfl ?_
    refine J.call0 (k := .q) trivial fok85 rfl rfl (fun w hw => Wk.top w) ?_
    refine J.yes rfl rfl ?_
    refine J.call0 (k := .q) trivial fok54 rfl rfl (fun w hw => Wa.Lt w _ _) ?_
    refine J.yes rfl rfl ?_
    refine J.not rfl rfl (by rw [← decide_not]) ?_
    refine J.pick_f rfl rfl rfl ?_
    refine J.assign rfl rfl ?_
    refine J.end ?_
    refine X.then ?_
    refine T.ret ?_
    exact X.ret1 rfl (RV.tmp rfl) (fun w' hw' => ⟨by congr 2; exact decide_eq_decide.2 (by unfold sgn; omega), hw'.sub (Sub.nil _)⟩)

theorem without (w : World) (x0 : Nat) :
    Calls Tryd.prog 56 [W x0].toArray w fun e w' => e = .returned (W (absN x0)) ∧ WS w [] [] w' := by
  refine calls_of_T [] 9 [] Tryd.func56 rfl Tryd.ntmps56 (by simp) (WS.refl _ _) ?_
  refine T.seq ?_
  refine T.text [.l, .l] rfl ?_
  refine J.box 1 rfl rfl (wc x0) rfl rfl (fun g1 hg1 => ?_)
  refine J.alloc 2 rfl zero24 [.int .u64 0, .int .u64 0, .int .u64 0, .int .u64 0] rfl rfl (fun g2 hg2 => ?_)
  refine J.end ?_
  refine X.then ?_
  refine T.seq ?_
  refine T.seq ?_
  refine T.text [.l, .l] rfl ?_
  refine J.loadN (k := .l) trivial 1 rfl rfl agg24 (wc x0) rfl rfl rfl ?_
  refine J.call0 (k := .l) trivial fok57 rfl rfl (fun w hw => Wk.sign w _) ?_
  refine J.end ?_
  refine X.then ?_
  refine T.cond_dec rfl (fun h1 => ?_) (fun h1 => ?_)
  · skip
    refine T.seq ?_
    refine T.text [.l, .l, .l, .l] rfl ?_
    refine J.build rfl rfl (W 0) (fun w => by kernel_rfl) ?_
    refine J.loadN (k := .l) trivial 1 rfl rfl agg24 (wc x0) rfl rfl rfl ?_
    refine J.call0 (k := .l) trivial fok25 rfl rfl (fun w hw => Wb.Sub w _ _) ?_
    refine J.store 2 rfl rfl rfl rfl (wc (dif 0 x0)) rfl sz24 (by first | decide | exact Nat.le_refl _ | exact Nat.le_of_ble_eq_true rfl | (simp [rowN]; done) | (simp [rowN]; omega)) (by first | exact rowN_one _ _ | (simp; done) | (intro u hu; simp at hu; subst hu; rfl) | (intro u hu; simp at hu; rcases hu with rfl | rfl <;> rfl)) (by first | decide | exact Nat.zero_lt_succ _ | simp) trivial (wc (dif 0 x0)) rfl ?_
    refine J.end ?_
    refine X.then ?_
    refine T.ret ?_
    refine X.then_ret ?_
    exact X.ret1 rfl (RV.agg 2 rfl rfl agg24 (wc (dif 0 x0)) (by rfl) (by rfl) rfl) (fun w' hw' => ⟨retW (by unfold absN; rw [if_pos (by assumption)]; show negN x0 % 2 ^ 256 = _; rw [negN_mod]; unfold sgn at *; split <;> omega), hw'.sub (Sub.nil _)⟩)
  · skip
    refine T.skip ?_
    refine X.then ?_
    refine T.seq ?_
    refine T.text [.l, .l] rfl ?_
    refine J.loadN (k := .l) trivial 1 rfl rfl agg24 (wc x0) rfl rfl rfl ?_
    refine J.store 2 rfl rfl rfl rfl (wc x0) rfl sz24 (by first | decide | exact Nat.le_refl _ | exact Nat.le_of_ble_eq_true rfl | (simp [rowN]; done) | (simp [rowN]; omega)) (by first | exact rowN_one _ _ | (simp; done) | (intro u hu; simp at hu; subst hu; rfl) | (intro u hu; simp at hu; rcases hu with rfl | rfl <;> rfl)) (by first | decide | exact Nat.zero_lt_succ _ | simp) trivial (wc x0) rfl ?_
    refine J.end ?_
    refine X.then ?_
    refine T.ret ?_
    exact X.ret1 rfl (RV.agg 2 rfl rfl agg24 (wc x0) (by rfl) (by rfl) rfl) (fun w' hw' => ⟨retW (by unfold absN; rw [if_neg (by assumption)]; omega), hw'.sub (Sub.nil _)⟩)
end Go.Proofs.YtegociefcfcihaaDoor.Wk
set_option linter.unusedVariables false
set_option maxRecDepth 20000
namespace Go.Proofs.YtegociefcfcihaaDoor.Wn
open Go Go.Fw

theorem sz39 : SizeT Tryd.prog 39 32 := (by unfold SizeT; kernel_rfl)
theorem zero8 : ZeroT Tryd.prog 67 (.agg (rowN .u64 (lg 0)).toArray) := (by unfold ZeroT; kernel_rfl)
theorem one25 : OneT Tryd.prog 25 := ⟨⟨_, Tryd.underlying25, rfl⟩, by kernel_rfl⟩
theorem one27 : OneT Tryd.prog 27 := ⟨⟨_, Tryd.underlying27, rfl⟩, by kernel_rfl⟩
theorem fok153 : FnOk Tryd.prog 153 := FnOk.mk' Tryd.func153 (by kernel_rfl) rfl
theorem fok23 : FnOk Tryd.prog 23 := FnOk.mk' Tryd.func23 (by kernel_rfl) rfl
theorem fok27 : FnOk Tryd.prog 27 := FnOk.mk' Tryd.func27 (by kernel_rfl) rfl
theorem fok25 : FnOk Tryd.prog 25 := FnOk.mk' Tryd.func25 (by kernel_rfl) rfl
theorem fok29 : FnOk Tryd.prog 29 := FnOk.mk' Tryd.func29 (by kernel_rfl) rfl
theorem fok34 : FnOk Tryd.prog 34 := FnOk.mk' Tryd.func34 (by kernel_rfl) rfl
theorem fok31 : FnOk Tryd.prog 31 := FnOk.mk' Tryd.func31 (by kernel_rfl) rfl
theorem fok36 : FnOk Tryd.prog 36 := FnOk.mk' Tryd.func36 (by kernel_rfl) rfl
theorem fok46 : FnOk Tryd.prog 46 := FnOk.mk' Tryd.func46 (by kernel_rfl) rfl
theorem fok48 : FnOk Tryd.prog 48 := FnOk.mk' Tryd.func48 (by kernel_rfl) rfl
theorem fok50 : FnOk Tryd.prog 50 := FnOk.mk' Tryd.func50 (by kernel_rfl) rfl
theorem fok44 : FnOk Tryd.prog 44 := FnOk.mk' Tryd.func44 (by kernel_rfl) rfl
theorem fok155 : FnOk Tryd.prog 155 := FnOk.mk' Tryd.func155 (by kernel_rfl) rfl
theorem fok54 : FnOk Tryd.prog 54 := FnOk.mk' Tryd.func54 (by kernel_rfl) rfl
theorem fok55 : FnOk Tryd.prog 55 := FnOk.mk' Tryd.func55 (by kernel_rfl) rfl
theorem fok38 : FnOk Tryd.prog 38 := FnOk.mk' Tryd.func38 (by kernel_rfl) rfl
theorem fok40 : FnOk Tryd.prog 40 := FnOk.mk' Tryd.func40 (by kernel_rfl) rfl
theorem fok79 : FnOk Tryd.prog 79 := FnOk.mk' Tryd.func79 (by kernel_rfl) rfl
theorem fok157 : FnOk Tryd.prog 157 := FnOk.mk' Tryd.func157 (by kernel_rfl) rfl
theorem fok62 : FnOk Tryd.prog 62 := FnOk.mk' Tryd.func62 (by kernel_rfl) rfl
theorem fok64 : FnOk Tryd.prog 64 := FnOk.mk' Tryd.func64 (by kernel_rfl) rfl
theorem fok66 : FnOk Tryd.prog 66 := FnOk.mk' Tryd.func66 (by kernel_rfl) rfl
theorem fok158 : FnOk Tryd.prog 158 := FnOk.mk' Tryd.func158 (by kernel_rfl) rfl
theorem fok69 : FnOk Tryd.prog 69 := FnOk.mk' Tryd.func69 (by kernel_rfl) rfl
theorem fok59 : FnOk Tryd.prog 59 := FnOk.mk' Tryd.func59 (by kernel_rfl) rfl
theorem fok60 : FnOk Tryd.prog 60 := FnOk.mk' Tryd.func60 (by kernel_rfl) rfl
theorem fok42 : FnOk Tryd.prog 42 := FnOk.mk' Tryd.func42 (by kernel_rfl) rfl
theorem fok159 : FnOk Tryd.prog 159 := FnOk.mk' Tryd.func159 (by kernel_rfl) rfl
theorem func98T : FuncT Tryd.prog 98 := ⟨_, _, _, Tryd.underlying98⟩
theorem fok148 : FnOk Tryd.prog 148 := FnOk.mk' Tryd.func148 (by kernel_rfl) rfl
theorem zero24 : ZeroT Tryd.prog 24 (.agg ([.int .u64 0, .int .u64 0, .int .u64 0, .int .u64 0]).toArray) := (by unfold ZeroT; kernel_rfl)
theorem sz24 : SizeT Tryd.prog 24 4 := (by unfold SizeT; kernel_rfl)
theorem agg24 : AggT Tryd.prog 24 4 := ⟨⟨_, Tryd.underlying24, rfl⟩, by kernel_rfl⟩

theorem FromUint (w : World) (n : Nat) (hn : n < 18446744073709551616) :
    Calls Tryd.prog 89 [.int .u64 (n : Int)].toArray w fun e w' => e = .returned (W n) ∧ WS w [] [] w' := by
  refine calls_of_T [] 5 [] Tryd.func89 rfl Tryd.ntmps89 (by simp) (WS.refl _ _) ?_
  refine T.seq ?_
  refine T.text [.l] rfl ?_
  refine J.alloc 2 rfl zero24 [.int .u64 0, .int .u64 0, .int .u64 0, .int .u64 0] rfl rfl (fun g2 hg2 => ?_)
  refine J.end ?_
  refine X.then ?_
  refine T.seq ?_
  refine T.text [.l, .l, .l] rfl ?_
  refine J.move rfl rfl ?_
  refine J.build rfl rfl (.agg ([.int .u64 ((n : Nat) : Int), .int .u64 0, .int .u64 0, .int .u64 0] : List Value).toArray) (fun w => by kernel_rfl) ?_
  refine J.as 4 (W (n)) rfl (W_small (by first | omega | (refine ⟨?_, ?_, ?_, ?_⟩ <;> omega))) ?_
  refine J.store 2 rfl rfl rfl rfl (wc (n)) rfl sz24 (by first | decide | exact Nat.le_refl _ | exact Nat.le_of_ble_eq_true rfl | (simp [rowN]; done) | (simp [rowN]; omega)) (by first | exact rowN_one _ _ | (simp; done) | (intro u hu; simp at hu; subst hu; rfl) | (intro u hu; simp at hu; rcases hu with rfl | rfl <;> rfl)) (by first | decide | exact Nat.zero_lt_succ _ | simp) trivial (wc (n)) rfl ?_
  refine J.end ?_
  refine X.then ?_
  refine T.ret ?_
  exact X.ret1 rfl (RV.agg 2 rfl rfl agg24 (wc (n)) (by rfl) (by rfl) rfl) (fun w' hw' => ⟨rfl, hw'.sub (Sub.nil _)⟩)

theorem num (w : World) (n : Int) :
    Calls Tryd.prog 91 [.int .i64 n].toArray w fun e w' => e = .returned (.int .i64 n) ∧ WS w [] [] w' := by
  refine calls_of_T [] 4 [] Tryd.func91 rfl Tryd.ntmps91 (by simp) (WS.refl _ _) ?_
  refine T.seq ?_
  refine T.text [.l] rfl ?_
  refine J.assign rfl rfl ?_
  refine J.end ?_
  refine X.then ?_
  refine T.seq ?_
  refine T.text [.l, .l] rfl ?_
  refine J.move rfl rfl ?_
  refine J.assign rfl rfl ?_
  refine J.end ?_
  refine X.then ?_
  refine T.ret ?_
  exact X.ret1 rfl (RV.tmp rfl) (fun w' hw' => ⟨rfl, hw'.sub (Sub.nil _)⟩)
end Go.Proofs.YtegociefcfcihaaDoor.Wn
