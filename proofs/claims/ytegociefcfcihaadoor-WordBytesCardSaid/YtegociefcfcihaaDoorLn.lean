/-
  Walks, printed by gen.py: what each function hands back, said of numbers.
  Conditions: those that each theorem bears.
-/
import Derived.Test.YtegociefcfcihaaDoorChecked
import Derived.Test.YtegociefcfcihaaDoorFn
import Derived.Test.YtegociefcfcihaaDoorPu
import Derived.Test.YtegociefcfcihaaDoorWa
import Derived.Test.YtegociefcfcihaaDoorWb
import Derived.Test.YtegociefcfcihaaDoorWe
import Derived.Test.YtegociefcfcihaaDoorWh
import Derived.Test.YtegociefcfcihaaDoorWk
import Derived.Test.YtegociefcfcihaaDoorWn
set_option linter.unusedVariables false
set_option maxRecDepth 20000
namespace Go.Proofs.YtegociefcfcihaaDoor.Ln
open Go Go.Fw

theorem sz39 : SizeT Tryd.prog 39 32 := (by unfold SizeT; kernel_rfl)
theorem zero8 : ZeroT Tryd.prog 67 (.agg (rowN .u64 (lg 0)).toArray) := (by unfold ZeroT; kernel_rfl)
theorem one25 : OneT Tryd.prog 25 := ⟨⟨_, Tryd.underlying25, rfl⟩, by kernel_rfl⟩
theorem one27 : OneT Tryd.prog 27 := ⟨⟨_, Tryd.underlying27, rfl⟩, by kernel_rfl⟩
theorem fok153 : FnOk Tryd.prog 153 := FnOk.mk' Tryd.func153 (by kernel_rfl) rfl
theorem fok23 : FnOk Tryd.prog 23 := FnOk.mk' Tryd.func23 (by kernel_rfl) rfl
theorem fok27 : FnOk Tryd.prog 27 := FnOk.mk' Tryd.func27 (by kernel_rfl) rfl
theorem fok25 : FnOk Tryd.prog 25 := FnOk.mk' Tryd.func25 (by kernel_rfl) rfl
theorem fok29 : FnOk Tryd.prog 29 := FnOk.mk' Tryd.func29 (by kernel_rfl) rfl
theorem fok34 : FnOk Tryd.prog 34 := FnOk.mk' Tryd.func34 (by kernel_rfl) rfl
theorem fok31 : FnOk Tryd.prog 31 := FnOk.mk' Tryd.func31 (by kernel_rfl) rfl
theorem fok36 : FnOk Tryd.prog 36 := FnOk.mk' Tryd.func36 (by kernel_rfl) rfl
theorem fok46 : FnOk Tryd.prog 46 := FnOk.mk' Tryd.func46 (by kernel_rfl) rfl
theorem fok48 : FnOk Tryd.prog 48 := FnOk.mk' Tryd.func48 (by kernel_rfl) rfl
theorem fok50 : FnOk Tryd.prog 50 := FnOk.mk' Tryd.func50 (by kernel_rfl) rfl
theorem fok44 : FnOk Tryd.prog 44 := FnOk.mk' Tryd.func44 (by kernel_rfl) rfl
theorem fok155 : FnOk Tryd.prog 155 := FnOk.mk' Tryd.func155 (by kernel_rfl) rfl
theorem fok54 : FnOk Tryd.prog 54 := FnOk.mk' Tryd.func54 (by kernel_rfl) rfl
theorem fok55 : FnOk Tryd.prog 55 := FnOk.mk' Tryd.func55 (by kernel_rfl) rfl
theorem fok38 : FnOk Tryd.prog 38 := FnOk.mk' Tryd.func38 (by kernel_rfl) rfl
theorem fok40 : FnOk Tryd.prog 40 := FnOk.mk' Tryd.func40 (by kernel_rfl) rfl
theorem fok79 : FnOk Tryd.prog 79 := FnOk.mk' Tryd.func79 (by kernel_rfl) rfl
theorem fok157 : FnOk Tryd.prog 157 := FnOk.mk' Tryd.func157 (by kernel_rfl) rfl
theorem fok62 : FnOk Tryd.prog 62 := FnOk.mk' Tryd.func62 (by kernel_rfl) rfl
theorem fok64 : FnOk Tryd.prog 64 := FnOk.mk' Tryd.func64 (by kernel_rfl) rfl
theorem fok66 : FnOk Tryd.prog 66 := FnOk.mk' Tryd.func66 (by kernel_rfl) rfl
theorem fok158 : FnOk Tryd.prog 158 := FnOk.mk' Tryd.func158 (by kernel_rfl) rfl
theorem fok69 : FnOk Tryd.prog 69 := FnOk.mk' Tryd.func69 (by kernel_rfl) rfl
theorem fok59 : FnOk Tryd.prog 59 := FnOk.mk' Tryd.func59 (by kernel_rfl) rfl
theorem fok60 : FnOk Tryd.prog 60 := FnOk.mk' Tryd.func60 (by kernel_rfl) rfl
theorem fok42 : FnOk Tryd.prog 42 := FnOk.mk' Tryd.func42 (by kernel_rfl) rfl
theorem fok159 : FnOk Tryd.prog 159 := FnOk.mk' Tryd.func159 (by kernel_rfl) rfl
theorem func98T : FuncT Tryd.prog 98 := ⟨_, _, _, Tryd.underlying98⟩
theorem fok148 : FnOk Tryd.prog 148 := FnOk.mk' Tryd.func148 (by kernel_rfl) rfl
theorem zero256 : ZeroT Tryd.prog 78 (.agg (rowN .i64 (List.replicate 256 0)).toArray) := (by unfold ZeroT; kernel_rfl)
theorem sz78 : SizeT Tryd.prog 78 256 := (by unfold SizeT; kernel_rfl)
theorem agg24 : AggT Tryd.prog 24 4 := ⟨⟨_, Tryd.underlying24, rfl⟩, by kernel_rfl⟩
theorem fok88 : FnOk Tryd.prog 88 := FnOk.mk' Tryd.func88 (by kernel_rfl) rfl
theorem zero39 : ZeroT Tryd.prog 39 (.agg ([.int .u8 0, .int .u8 0, .int .u8 0, .int .u8 0, .int .u8 0, .int .u8 0, .int .u8 0, .int .u8 0, .int .u8 0, .int .u8 0, .int .u8 0, .int .u8 0, .int .u8 0, .int .u8 0, .int .u8 0, .int .u8 0, .int .u8 0, .int .u8 0, .int .u8 0, .int .u8 0, .int .u8 0, .int .u8 0, .int .u8 0, .int .u8 0, .int .u8 0, .int .u8 0, .int .u8 0, .int .u8 0, .int .u8 0, .int .u8 0, .int .u8 0, .int .u8 0]).toArray) := (by unfold ZeroT; kernel_rfl)
theorem zero24 : ZeroT Tryd.prog 24 (.agg ([.int .u64 0, .int .u64 0, .int .u64 0, .int .u64 0]).toArray) := (by unfold ZeroT; kernel_rfl)
theorem sz24 : SizeT Tryd.prog 24 4 := (by unfold SizeT; kernel_rfl)
theorem fok89 : FnOk Tryd.prog 89 := FnOk.mk' Tryd.func89 (by kernel_rfl) rfl
theorem sz5 : SizeT Tryd.prog 5 1 := (by unfold SizeT; kernel_rfl)
theorem arr39 : ArrT Tryd.prog 39 32 5 1 := ⟨Tryd.underlying39, sz5⟩
theorem one5 : OneT Tryd.prog 5 := ⟨⟨_, Tryd.underlying5, rfl⟩, by kernel_rfl⟩
theorem sz22 : SizeT Tryd.prog 22 1 := (by unfold SizeT; kernel_rfl)
theorem arr24 : ArrT Tryd.prog 24 4 22 1 := ⟨Tryd.underlying24, sz22⟩
theorem one22 : OneT Tryd.prog 22 := ⟨⟨_, Tryd.underlying22, rfl⟩, by kernel_rfl⟩
theorem eqw24 : EqT Tryd.prog 24 := ⟨⟨22, arr24, one22, Tryd.underlying22⟩, by kernel_rfl⟩
theorem fok90 : FnOk Tryd.prog 90 := FnOk.mk' Tryd.func90 (by kernel_rfl) rfl
theorem fok91 : FnOk Tryd.prog 91 := FnOk.mk' Tryd.func91 (by kernel_rfl) rfl
theorem fok75 : FnOk Tryd.prog 75 := FnOk.mk' Tryd.func75 (by kernel_rfl) rfl
theorem fok33 : FnOk Tryd.prog 33 := FnOk.mk' Tryd.func33 (by kernel_rfl) rfl

theorem WordBytes (w : World) (x0 : Nat) :
    Calls Tryd.prog 19 [W x0].toArray w fun e w' => e = .returned (.bool true) ∧ WS w [] [] w' := by
  refine calls_of_T [] 91 [] Tryd.func19 rfl Tryd.ntmps19 (by simp) (WS.refl _ _) ?_
  refine T.seq ?_
  refine T.text [.l, .l] rfl ?_
  refine J.box 1 rfl rfl (wc x0) rfl rfl (fun g1 hg1 => ?_)
  refine J.assign rfl rfl ?_
  refine J.end ?_
  refine X.then ?_
  refine T.seq ?_
  refine T.text [.l, .l, .l, .l] rfl ?_
  refine J.loadN (k := .l) trivial 1 rfl rfl agg24 (wc x0) rfl rfl rfl ?_
  refine J.call0 (k := .l) trivial fok88 rfl rfl (fun w hw => Wa.Bytes w _) ?_
  refine J.alloc 3 rfl zero39 [.int .u8 0, .int .u8 0, .int .u8 0, .int .u8 0, .int .u8 0, .int .u8 0, .int .u8 0, .int .u8 0, .int .u8 0, .int .u8 0, .int .u8 0, .int .u8 0, .int .u8 0, .int .u8 0, .int .u8 0, .int .u8 0, .int .u8 0, .int .u8 0, .int .u8 0, .int .u8 0, .int .u8 0, .int .u8 0, .int .u8 0, .int .u8 0, .int .u8 0, .int .u8 0, .int .u8 0, .int .u8 0, .int .u8 0, .int .u8 0, .int .u8 0, .int .u8 0] rfl rfl (fun g3 hg3 => ?_)
  refine J.store 3 rfl rfl rfl rfl (rowN .u8 (bytesN x0)) rfl (by rw [rowN_length, bytesN_length]; exact sz39) (by rw [rowN_length, bytesN_length]; exact Nat.le_refl _) (by first | exact rowN_one _ _ | (simp; done) | (intro u hu; simp at hu; subst hu; rfl) | (intro u hu; simp at hu; rcases hu with rfl | rfl <;> rfl)) (by rw [rowN_length, bytesN_length]; decide) trivial (rowN .u8 (bytesN x0)) (by unfold put; rw [rowN_length, bytesN_length]; exact List.append_nil _) ?_
  refine J.end ?_
  refine X.then ?_
  refine T.seq ?_
  refine T.text [.l, .l, .l] rfl ?_
  refine J.build rfl rfl (W 0) (fun w => by kernel_rfl) ?_
  refine J.alloc 4 rfl zero24 [.int .u64 0, .int .u64 0, .int .u64 0, .int .u64 0] rfl rfl (fun g4 hg4 => ?_)
  refine J.store 4 rfl rfl rfl rfl (wc 0) rfl sz24 (by first | decide | exact Nat.le_refl _ | exact Nat.le_of_ble_eq_true rfl | (simp [rowN]; done) | (simp [rowN]; omega)) (by first | exact rowN_one _ _ | (simp; done) | (intro u hu; simp at hu; subst hu; rfl) | (intro u hu; simp at hu; rcases hu with rfl | rfl <;> rfl)) (by first | decide | exact Nat.zero_lt_succ _ | simp) trivial (wc 0) rfl ?_
  refine J.end ?_
  refine X.then ?_
  refine T.seq ?_
  refine T.text [.l] rfl ?_
  refine J.assign rfl rfl ?_
  refine J.end ?_
  refine X.then ?_
  refine T.seq ?_
  refine T.seq ?_
  refine T.text [.l] rfl ?_
  refine J.assign rfl rfl ?_
  refine J.end ?_
  refine X.then ?_
  refine T.block ?_
  refine T.loop (ι := Nat × Nat × Nat) (fun ((i, a, z) : Nat × Nat × Nat) => i ≤ 32 ∧ a % 2 ^ 256 = x0 % 2 ^ 256 / 256 ^ (32 - i) ∧ z ≤ i ∧ (∀ q, q < z → (bytesN x0).getD q 0 = 0) ∧ (z < i → (bytesN x0).getD z 0 ≠ 0)) (fun ((i, a, z) : Nat × Nat × Nat) => [(0, W x0), (1, .pointer (some ⟨g1, 0, none⟩)), (12, W x0), (3, .pointer (some ⟨g3, 0, none⟩)), (14, (W 0)), (4, .pointer (some ⟨g4, 0, none⟩)), (6, .int .i64 (i : Int)), (5, .int .i64 (z : Int))]) (fun ((i, a, z) : Nat × Nat × Nat) => [(1, ⟨some g1, 24, (wc x0)⟩), (3, ⟨some g3, 39, (rowN .u8 (bytesN x0))⟩), (4, ⟨some g4, 24, wc a⟩)]) (fun ((i, a, z) : Nat × Nat × Nat) => 32 - i) ⟨0, 0, 0⟩ ⟨Nat.zero_le _, by rw [Nat.div_eq_of_lt (Nat.mod_lt _ (by decide))], Nat.le_refl _, fun q hq => by omega, fun h => by omega⟩ (by repeat (first | exact Sub.nil _ | refine Sub.cons (by first | rfl | (rw [dgs_zero]; rfl) | (rw [List.drop_length]; rfl) | (simp; done) | (congr 2; omega) | (congr 3; omega)) ?_)) (by repeat (first | exact Sub.nil _ | refine Sub.cons (by first | rfl | (rw [dgs_zero]; rfl) | (rw [List.drop_length]; rfl) | (simp; done) | (congr 2; omega) | (congr 3; omega)) ?_)) ?_
  rintro ⟨i, a, z⟩ ⟨hi, ha, hzi, hz0, hz1⟩
  try dsimp only at *
  refine T.seq ?_
  refine T.seq ?_
  refine T.text [.l, .l] rfl ?_
  refine J.move rfl rfl ?_
  refine J.lss rfl rfl rfl rfl ?_
  refine J.end ?_
  refine X.then ?_
  refine T.cond_dec rfl (fun h1 => ?_) (fun h1 => ?_)
  · have hi32 : i < 32 := by omega
    have hbm := Nat.mod_lt (x0 / 256 ^ (31 - i)) (show 256 > 0 by omega)
    have hbg := bytesN_get x0 i hi32
    refine T.skip ?_
    refine X.then ?_
    refine T.seq ?_
    refine T.block ?_
    refine T.seq ?_
    refine T.draw [] [(0, .g), (1, .g), (2, .q), (3, .q), (4, .q), (5, .a 7), (6, .l)] (by kernel_rfl) (by kernel_rfl) ?_ (by repeat (first | exact Sub.nil _ | refine Sub.cons (by first | rfl | (rw [dgs_zero]; rfl) | (rw [List.drop_length]; rfl) | (simp; done) | (congr 2; omega) | (congr 3; omega)) ?_))
    refine J.move rfl rfl ?_
    refine J.conv (by rw [Tryd.underlying3]; rfl) Tryd.underlying22 rfl rfl (by first | exact wrapu_nat' _ (by omega) | exact wrapu_nat _ | exact u64_wrap _) ?_
    refine J.call0 (k := .q) trivial fok89 rfl rfl (fun w hw => Wn.FromUint w i (by omega)) ?_
    refine J.loadN (k := .q) trivial 1 rfl rfl agg24 (wc x0) rfl rfl rfl ?_
    refine J.call0 (k := .q) trivial fok69 rfl rfl (fun w hw => We.Byte w _ _) ?_
    refine J.allocA 7 rfl rfl zero24 [.int .u64 0, .int .u64 0, .int .u64 0, .int .u64 0] rfl rfl (fun g7 hg7 => ?_)
    refine J.store 7 rfl rfl rfl rfl (wc (byteN (i) x0)) rfl sz24 (by first | decide | exact Nat.le_refl _ | exact Nat.le_of_ble_eq_true rfl | (simp [rowN]; done) | (simp [rowN]; omega)) (by first | exact rowN_one _ _ | (simp; done) | (intro u hu; simp at hu; subst hu; rfl) | (intro u hu; simp at hu; rcases hu with rfl | rfl <;> rfl)) (by first | decide | exact Nat.zero_lt_succ _ | simp) trivial (wc (byteN (i) x0)) rfl ?_
    refine J.end ?_
    refine X.then ?_
    refine T.seq ?_
    refine T.seq ?_
    refine T.draw [] [(0, .q), (1, .g), (2, .g), (3, .q), (4, .g), (5, .q), (6, .g)] (by kernel_rfl) (by kernel_rfl) ?_ (by repeat (first | exact Sub.nil _ | refine Sub.cons (by first | rfl | (rw [dgs_zero]; rfl) | (rw [List.drop_length]; rfl) | (simp; done) | (congr 2; omega) | (congr 3; omega)) ?_))
    refine J.loadN (k := .q) trivial 7 rfl rfl agg24 (wc (byteN (i) x0)) rfl rfl rfl ?_
    refine J.move rfl rfl ?_
    refine J.indexArr arr39 rfl rfl (by omega) (by omega) (by first | exact Int.toNat_natCast _ | rfl) rfl ?_
    refine J.load1 (k := .q) trivial 3 rfl rfl one5 (by exact rowN_get0 _ _ _ (by rw [bytesN_length]; omega)) rfl ?_
    refine J.as 27 (.int .u8 ((x0 / 256 ^ (31 - i) % 256 : Nat) : Int)) rfl (by rw [bytesN_get _ _ (by omega)]) ?_
    refine J.conv (by rw [Tryd.underlying5]; rfl) Tryd.underlying22 rfl rfl (by first | exact wrapu_nat' _ (by omega) | exact wrapu_nat _ | exact u64_wrap _) ?_
    refine J.call0 (k := .q) trivial fok89 rfl rfl (fun w hw => Wn.FromUint w _ (by omega)) ?_
    refine J.neqW eqw24 rfl rfl rfl ?_
    refine J.as 30 (.bool false) rfl (by rw [decide_eq_false (by refine not_not_intro ?_; rw [byte_eq hi32])]) ?_
    refine J.end ?_
    refine X.then ?_
    refine T.cond_false rfl ?_
    refine T.skip ?_
    refine X.then ?_
    refine T.seq ?_
    refine T.draw [] [(0, .q), (1, .g), (2, .q), (3, .q), (4, .q), (5, .l)] (by kernel_rfl) (by kernel_rfl) ?_ (by repeat (first | exact Sub.nil _ | refine Sub.cons (by first | rfl | (rw [dgs_zero]; rfl) | (rw [List.drop_length]; rfl) | (simp; done) | (congr 2; omega) | (congr 3; omega)) ?_))
    refine J.loadN (k := .q) trivial 4 rfl rfl agg24 (wc a) rfl rfl rfl ?_
    refine J.build rfl rfl (W 256) (fun w => by kernel_rfl) ?_
    refine J.call0 (k := .q) trivial fok27 rfl rfl (fun w hw => Wb.Mul w _ _) ?_
    refine J.loadN (k := .q) trivial 7 rfl rfl agg24 (wc (byteN (i) x0)) rfl rfl rfl ?_
    refine J.call0 (k := .q) trivial fok23 rfl rfl (fun w hw => Wb.Add w _ _) ?_
    refine J.store 4 rfl rfl rfl rfl (wc (((a * 256)) + ((byteN (i) x0)))) rfl sz24 (by first | decide | exact Nat.le_refl _ | exact Nat.le_of_ble_eq_true rfl | (simp [rowN]; done) | (simp [rowN]; omega)) (by first | exact rowN_one _ _ | (simp; done) | (intro u hu; simp at hu; subst hu; rfl) | (intro u hu; simp at hu; rcases hu with rfl | rfl <;> rfl)) (by first | decide | exact Nat.zero_lt_succ _ | simp) trivial (wc (((a * 256)) + ((byteN (i) x0)))) rfl ?_
    refine J.end ?_
    refine X.then ?_
    refine T.seq ?_
    refine T.text [.l, .l, .l, .l, .l, .l, .l, .l, .l] rfl ?_
    refine J.move rfl rfl ?_
    refine J.move rfl rfl ?_
    refine J.eql rfl rfl rfl rfl ?_
    refine J.move rfl rfl ?_
    refine J.split 39 rfl (fun h2 => ?_) (fun h2 => ?_)
    · skip
      refine J.yes rfl rfl ?_
      refine J.move rfl rfl ?_
      refine J.yes rfl rfl ?_
      refine J.indexArr arr39 rfl rfl (by omega) (by omega) (by first | exact Int.toNat_natCast _ | rfl) rfl ?_
      refine J.yes rfl rfl ?_
      refine J.load1 (k := .l) trivial 3 rfl rfl one5 (by exact rowN_get0 _ _ _ (by rw [bytesN_length]; omega)) rfl ?_
      refine J.as 42 (.int .u8 ((x0 / 256 ^ (31 - i) % 256 : Nat) : Int)) rfl (by rw [bytesN_get _ _ (by omega)]) ?_
      refine J.yes rfl rfl ?_
      refine J.eql rfl rfl rfl rfl ?_
      refine J.pick_t rfl rfl rfl ?_
      refine J.end ?_
      refine X.then ?_
      refine T.cond_dec rfl (fun h3 => ?_) (fun h3 => ?_)
      · have hzz : z = i := by omega
        have hb0 : (bytesN x0).getD z 0 = 0 := by rw [hzz, hbg]; omega
        refine T.text [.l, .l, .l] rfl ?_
        refine J.move rfl rfl ?_
        refine J.add rfl rfl rfl (by first | exact add_nat _ 1 (by omega) | exact i64_ok _ (by omega) | exact rfl) ?_
        refine J.assign rfl rfl ?_
        refine J.end ?_
        refine X.inBlock (X.then ?_)
        refine T.text [.l, .l, .l] rfl ?_
        refine J.move rfl rfl ?_
        refine J.add rfl rfl rfl (by first | exact add_nat _ 1 (by omega) | exact i64_ok _ (by omega) | exact rfl) ?_
        refine J.assign rfl rfl ?_
        refine J.end ?_
        exact X.round ⟨(i + 1), (a * 256 + byteN i x0), (z + 1)⟩ ⟨by omega, byte_acc hi32 ha, by dsimp only; omega, fun q hq => (Nat.lt_or_ge q z).elim (fun h => hz0 q h) (fun h => by obtain rfl : q = z := (by dsimp only at hq; omega); exact hb0), fun h => by dsimp only at h; omega⟩ (by first | omega | (dsimp only; omega)) (by repeat (first | exact Sub.nil _ | refine Sub.cons (by first | rfl | (rw [dgs_zero]; rfl) | (rw [List.drop_length]; rfl) | (simp; done) | (congr 2; omega) | (congr 3; omega)) ?_)) (by repeat (first | exact Sub.nil _ | refine Sub.cons (by first | rfl | (rw [dgs_zero]; rfl) | (rw [List.drop_length]; rfl) | (simp; done) | (congr 2; omega) | (congr 3; omega)) ?_))
      · have hnz : z < i + 1 → (bytesN x0).getD z 0 ≠ 0 := fun h => (Nat.lt_or_ge z i).elim hz1 (fun h2 => by obtain rfl : z = i := (by omega); rw [hbg]; omega)
        refine T.skip ?_
        refine X.inBlock (X.then ?_)
        refine T.text [.l, .l, .l] rfl ?_
        refine J.move rfl rfl ?_
        refine J.add rfl rfl rfl (by first | exact add_nat _ 1 (by omega) | exact i64_ok _ (by omega) | exact rfl) ?_
        refine J.assign rfl rfl ?_
        refine J.end ?_
        exact X.round ⟨(i + 1), (a * 256 + byteN i x0), z⟩ ⟨by omega, byte_acc hi32 ha, by dsimp only; omega, hz0, fun h => hnz h⟩ (by first | omega | (dsimp only; omega)) (by repeat (first | exact Sub.nil _ | refine Sub.cons (by first | rfl | (rw [dgs_zero]; rfl) | (rw [List.drop_length]; rfl) | (simp; done) | (congr 2; omega) | (congr 3; omega)) ?_)) (by repeat (first | exact Sub.nil _ | refine Sub.cons (by first | rfl | (rw [dgs_zero]; rfl) | (rw [List.drop_length]; rfl) | (simp; done) | (congr 2; omega) | (congr 3; omega)) ?_))
    · have hnz : z < i + 1 → (bytesN x0).getD z 0 ≠ 0 := fun h => hz1 (by omega)
      refine J.no rfl rfl rfl rfl ?_
      refine J.no rfl rfl rfl rfl ?_
      refine J.no rfl rfl rfl rfl ?_
      refine J.no rfl rfl rfl rfl ?_
      refine J.pick_f rfl rfl rfl ?_
      refine J.end ?_
      refine X.then ?_
      refine T.cond_false rfl ?_
      refine T.skip ?_
      refine X.inBlock (X.then ?_)
      refine T.text [.l, .l, .l] rfl ?_
      refine J.move rfl rfl ?_
      refine J.add rfl rfl rfl (by first | exact add_nat _ 1 (by omega) | exact i64_ok _ (by omega) | exact rfl) ?_
      refine J.assign rfl rfl ?_
      refine J.end ?_
      exact X.round ⟨(i + 1), (a * 256 + byteN i x0), z⟩ ⟨by omega, byte_acc hi32 ha, by dsimp only; omega, hz0, fun h => hnz h⟩ (by first | omega | (dsimp only; omega)) (by repeat (first | exact Sub.nil _ | refine Sub.cons (by first | rfl | (rw [dgs_zero]; rfl) | (rw [List.drop_length]; rfl) | (simp; done) | (congr 2; omega) | (congr 3; omega)) ?_)) (by repeat (first | exact Sub.nil _ | refine Sub.cons (by first | rfl | (rw [dgs_zero]; rfl) | (rw [List.drop_length]; rfl) | (simp; done) | (congr 2; omega) | (congr 3; omega)) ?_))
  · obtain rfl : i = 32 := by omega
    rw [Nat.sub_self, Nat.pow_zero, Nat.div_one] at ha
    obtain ⟨o, ho⟩ : ∃ o, o = if 32 = z then 0 else z := ⟨_, rfl⟩
    refine T.exit ?_
    refine X.then_exit (X.then_exit (X.inBlock_eq (X.then ?_)))
    refine T.seq ?_
    refine T.text [.l, .l, .l, .l, .l, .l, .l, .l, .l] rfl ?_
    refine J.move rfl rfl ?_
    refine J.sliceArr arr39 rfl (optInt.some rfl (by omega) (by first | exact Int.toNat_natCast _ | rfl)) optInt.none optInt.none (by simp) (by omega) (by omega) (by omega) rfl rfl ?_
    refine J.as 49 (.slice (some ⟨g3, o, none⟩) ((bytesN x0).drop z).length (32 - z)) rfl (by rw [ho, List.length_drop, bytesN_length]; split <;> first | rfl | simp) ?_
    refine J.call0 (k := .l) trivial fok90 rfl rfl (fun w hw => Wa.FromBytes w _ _ ((bytesN x0).drop z) (hw.csOf (k := 3) rfl o _ (drop_cells (bytesN_length x0) hzi ho)) ((bytesN_dg x0).drop z) (by first | (rw [bytesN_length]; decide) | (rw [List.length_drop, bytesN_length]; omega))) ?_
    refine J.move rfl rfl ?_
    refine J.extract rfl rfl rfl ?_
    refine J.extract rfl rfl rfl ?_
    refine J.alloc 8 rfl zero24 [.int .u64 0, .int .u64 0, .int .u64 0, .int .u64 0] rfl rfl (fun g8 hg8 => ?_)
    refine J.store 8 rfl rfl rfl rfl (wc (if ((bytesN x0).drop z).length ≤ 32 then vl ((bytesN x0).drop z).reverse else 0)) rfl sz24 (by first | decide | exact Nat.le_refl _ | exact Nat.le_of_ble_eq_true rfl | (simp [rowN]; done) | (simp [rowN]; omega)) (by first | exact rowN_one _ _ | (simp; done) | (intro u hu; simp at hu; subst hu; rfl) | (intro u hu; simp at hu; rcases hu with rfl | rfl <;> rfl)) (by first | decide | exact Nat.zero_lt_succ _ | simp) trivial (wc (if ((bytesN x0).drop z).length ≤ 32 then vl ((bytesN x0).drop z).reverse else 0)) rfl ?_
    refine J.assign rfl rfl ?_
    refine J.end ?_
    refine X.then ?_
    refine T.seq ?_
    refine T.text [.l, .l, .l, .l, .l, .l, .l, .l] rfl ?_
    refine J.sliceArr arr39 rfl optInt.none optInt.none optInt.none (by simp) (by omega) (by omega) (by omega) rfl rfl ?_
    refine J.as 54 (.slice (some ⟨g3, 0, none⟩) (bytesN x0).length 32) rfl (by rw [bytesN_length]; rfl) ?_
    refine J.call0 (k := .l) trivial fok90 rfl rfl (fun w hw => Wa.FromBytes w _ _ (bytesN x0) (hw.csOf (k := 3) rfl 0 _ (fun i x hx => by rw [Nat.zero_add]; exact hx)) (bytesN_dg x0) (by first | (rw [bytesN_length]; decide) | (rw [List.length_drop, bytesN_length]; omega))) ?_
    refine J.move rfl rfl ?_
    refine J.extract rfl rfl rfl ?_
    refine J.extract rfl rfl rfl ?_
    refine J.alloc 10 rfl zero24 [.int .u64 0, .int .u64 0, .int .u64 0, .int .u64 0] rfl rfl (fun g10 hg10 => ?_)
    refine J.store 10 rfl rfl rfl rfl (wc (if (bytesN x0).length ≤ 32 then vl (bytesN x0).reverse else 0)) rfl sz24 (by first | decide | exact Nat.le_refl _ | exact Nat.le_of_ble_eq_true rfl | (simp [rowN]; done) | (simp [rowN]; omega)) (by first | exact rowN_one _ _ | (simp; done) | (intro u hu; simp at hu; subst hu; rfl) | (intro u hu; simp at hu; rcases hu with rfl | rfl <;> rfl)) (by first | decide | exact Nat.zero_lt_succ _ | simp) trivial (wc (if (bytesN x0).length ≤ 32 then vl (bytesN x0).reverse else 0)) rfl ?_
    refine J.assign rfl rfl ?_
    refine J.end ?_
    refine X.then ?_
    refine T.seq ?_
    refine T.text [.l, .l, .l, .l, .l, .l, .l, .l, .l, .l, .l, .l, .l, .l, .l, .l, .l, .l, .l, .l, .l, .l, .l, .l, .l, .l, .l, .l, .l, .l, .l, .l, .l, .l] rfl ?_
    refine J.loadN (k := .l) trivial 4 rfl rfl agg24 (wc a) rfl rfl rfl ?_
    refine J.loadN (k := .l) trivial 1 rfl rfl agg24 (wc x0) rfl rfl rfl ?_
    refine J.eqW eqw24 rfl rfl rfl ?_
    refine J.as 60 (.bool true) rfl (by rw [decide_eq_true (by rw [ha])]) ?_
    refine J.move rfl rfl ?_
    refine J.yes rfl rfl ?_
    refine J.loadN (k := .l) trivial 8 rfl rfl agg24 (wc (if ((bytesN x0).drop z).length ≤ 32 then vl ((bytesN x0).drop z).reverse else 0)) rfl rfl rfl ?_
    refine J.yes rfl rfl ?_
    refine J.loadN (k := .l) trivial 1 rfl rfl agg24 (wc x0) rfl rfl rfl ?_
    refine J.yes rfl rfl ?_
    refine J.eqW eqw24 rfl rfl rfl ?_
    refine J.as 64 (.bool true) rfl (by rw [decide_eq_true (by rw [if_pos (by rw [List.length_drop, bytesN_length]; omega), lead_zero hz0, Nat.mod_mod])]) ?_
    refine J.pick_t rfl rfl rfl ?_
    refine J.move rfl rfl ?_
    refine J.yes rfl rfl ?_
    refine J.loadN (k := .l) trivial 10 rfl rfl agg24 (wc (if (bytesN x0).length ≤ 32 then vl (bytesN x0).reverse else 0)) rfl rfl rfl ?_
    refine J.yes rfl rfl ?_
    refine J.loadN (k := .l) trivial 1 rfl rfl agg24 (wc x0) rfl rfl rfl ?_
    refine J.yes rfl rfl ?_
    refine J.eqW eqw24 rfl rfl rfl ?_
    refine J.as 69 (.bool true) rfl (by rw [decide_eq_true (by rw [if_pos (by rw [bytesN_length]; decide), bytesN_vl, Nat.mod_mod])]) ?_
    refine J.pick_t rfl rfl rfl ?_
    refine J.move rfl rfl ?_
    refine J.yes rfl rfl ?_
    refine J.move rfl rfl ?_
    refine J.yes rfl rfl ?_
    refine J.call0 (k := .l) trivial fok91 rfl rfl (fun w hw => Wn.num w _) ?_
    refine J.yes rfl rfl ?_
    refine J.eql rfl rfl rfl rfl ?_
    refine J.as 74 (.bool true) rfl (by rw [decide_eq_true (by rw [if_pos (by rw [List.length_drop, bytesN_length]; omega)]; rfl)]) ?_
    refine J.pick_t rfl rfl rfl ?_
    refine J.move rfl rfl ?_
    refine J.yes rfl rfl ?_
    refine J.move rfl rfl ?_
    refine J.yes rfl rfl ?_
    refine J.call0 (k := .l) trivial fok91 rfl rfl (fun w hw => Wn.num w _) ?_
    refine J.yes rfl rfl ?_
    refine J.eql rfl rfl rfl rfl ?_
    refine J.as 79 (.bool true) rfl (by rw [decide_eq_true (by rw [if_pos (by rw [bytesN_length]; decide)]; rfl)]) ?_
    refine J.pick_t rfl rfl rfl ?_
    refine J.move rfl rfl ?_
    refine J.yes rfl rfl ?_
    refine J.loadN (k := .l) trivial 1 rfl rfl agg24 (wc x0) rfl rfl rfl ?_
    refine J.yes rfl rfl ?_
    refine J.call0 (k := .l) trivial fok75 rfl rfl (fun w hw => Wa.Size w _) ?_
    refine J.yes rfl rfl ?_
    refine J.move rfl rfl ?_
    refine J.yes rfl rfl ?_
    refine J.sub' rfl rfl rfl (by first | exact sub_nat 32 _ (by omega) | exact i64_ok _ (by omega) | exact rfl) ?_
    refine J.yes rfl rfl ?_
    refine J.eql rfl rfl rfl rfl ?_
    refine J.as 86 (.bool true) rfl (by rw [decide_eq_true (by rw [size_lead hzi hz0 hz1]; try omega)]) ?_
    refine J.pick_t rfl rfl rfl ?_
    refine J.move rfl rfl ?_
    refine J.yes rfl rfl ?_
    refine J.call0 (k := .l) trivial fok33 rfl rfl (fun w hw => Wk.awake w) ?_
    refine J.pick_t rfl rfl rfl ?_
    refine J.assign rfl rfl ?_
    refine J.end ?_
    refine X.then ?_
    refine T.ret ?_
    exact X.ret1 rfl (RV.tmp rfl) (fun w' hw' => ⟨rfl, hw'.sub (Sub.nil _)⟩)
end Go.Proofs.YtegociefcfcihaaDoor.Ln
