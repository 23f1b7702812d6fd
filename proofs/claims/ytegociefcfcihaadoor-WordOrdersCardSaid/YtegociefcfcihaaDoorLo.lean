/-
  Walks, printed by gen.py: what each function hands back, said of numbers.
  Conditions: those that each theorem bears.
-/
import Derived.Test.YtegociefcfcihaaDoorChecked
import Derived.Test.YtegociefcfcihaaDoorFn
import Derived.Test.YtegociefcfcihaaDoorPx
import Derived.Test.YtegociefcfcihaaDoorWa
import Derived.Test.YtegociefcfcihaaDoorWb
import Derived.Test.YtegociefcfcihaaDoorWe
import Derived.Test.YtegociefcfcihaaDoorWh
import Derived.Test.YtegociefcfcihaaDoorWk
import Derived.Test.YtegociefcfcihaaDoorWc
set_option linter.unusedVariables false
set_option maxRecDepth 20000
namespace Go.Proofs.YtegociefcfcihaaDoor.Lo
open Go Go.Fw

theorem sz39 : SizeT Tryd.prog 39 32 := (by unfold SizeT; kernel_rfl)
theorem zero8 : ZeroT Tryd.prog 67 (.agg (rowN .u64 (lg 0)).toArray) := (by unfold ZeroT; kernel_rfl)
theorem one25 : OneT Tryd.prog 25 := ⟨⟨_, Tryd.underlying25, rfl⟩, by kernel_rfl⟩
theorem one27 : OneT Tryd.prog 27 := ⟨⟨_, Tryd.underlying27, rfl⟩, by kernel_rfl⟩
theorem fok153 : FnOk Tryd.prog 153 := FnOk.mk' Tryd.func153 (by kernel_rfl) rfl
theorem fok23 : FnOk Tryd.prog 23 := FnOk.mk' Tryd.func23 (by kernel_rfl) rfl
theorem fok27 : FnOk Tryd.prog 27 := FnOk.mk' Tryd.func27 (by kernel_rfl) rfl
theorem fok25 : FnOk Tryd.prog 25 := FnOk.mk' Tryd.func25 (by kernel_rfl) rfl
theorem fok29 : FnOk Tryd.prog 29 := FnOk.mk' Tryd.func29 (by kernel_rfl) rfl
theorem fok34 : FnOk Tryd.prog 34 := FnOk.mk' Tryd.func34 (by kernel_rfl) rfl
theorem fok31 : FnOk Tryd.prog 31 := FnOk.mk' Tryd.func31 (by kernel_rfl) rfl
theorem fok36 : FnOk Tryd.prog 36 := FnOk.mk' Tryd.func36 (by kernel_rfl) rfl
theorem fok46 : FnOk Tryd.prog 46 := FnOk.mk' Tryd.func46 (by kernel_rfl) rfl
theorem fok48 : FnOk Tryd.prog 48 := FnOk.mk' Tryd.func48 (by kernel_rfl) rfl
theorem fok50 : FnOk Tryd.prog 50 := FnOk.mk' Tryd.func50 (by kernel_rfl) rfl
theorem fok44 : FnOk Tryd.prog 44 := FnOk.mk' Tryd.func44 (by kernel_rfl) rfl
theorem fok155 : FnOk Tryd.prog 155 := FnOk.mk' Tryd.func155 (by kernel_rfl) rfl
theorem fok54 : FnOk Tryd.prog 54 := FnOk.mk' Tryd.func54 (by kernel_rfl) rfl
theorem fok55 : FnOk Tryd.prog 55 := FnOk.mk' Tryd.func55 (by kernel_rfl) rfl
theorem fok38 : FnOk Tryd.prog 38 := FnOk.mk' Tryd.func38 (by kernel_rfl) rfl
theorem fok40 : FnOk Tryd.prog 40 := FnOk.mk' Tryd.func40 (by kernel_rfl) rfl
theorem fok79 : FnOk Tryd.prog 79 := FnOk.mk' Tryd.func79 (by kernel_rfl) rfl
theorem fok157 : FnOk Tryd.prog 157 := FnOk.mk' Tryd.func157 (by kernel_rfl) rfl
theorem fok62 : FnOk Tryd.prog 62 := FnOk.mk' Tryd.func62 (by kernel_rfl) rfl
theorem fok64 : FnOk Tryd.prog 64 := FnOk.mk' Tryd.func64 (by kernel_rfl) rfl
theorem fok66 : FnOk Tryd.prog 66 := FnOk.mk' Tryd.func66 (by kernel_rfl) rfl
theorem fok158 : FnOk Tryd.prog 158 := FnOk.mk' Tryd.func158 (by kernel_rfl) rfl
theorem fok69 : FnOk Tryd.prog 69 := FnOk.mk' Tryd.func69 (by kernel_rfl) rfl
theorem fok59 : FnOk Tryd.prog 59 := FnOk.mk' Tryd.func59 (by kernel_rfl) rfl
theorem fok60 : FnOk Tryd.prog 60 := FnOk.mk' Tryd.func60 (by kernel_rfl) rfl
theorem fok42 : FnOk Tryd.prog 42 := FnOk.mk' Tryd.func42 (by kernel_rfl) rfl
theorem fok159 : FnOk Tryd.prog 159 := FnOk.mk' Tryd.func159 (by kernel_rfl) rfl
theorem func98T : FuncT Tryd.prog 98 := ⟨_, _, _, Tryd.underlying98⟩
theorem fok148 : FnOk Tryd.prog 148 := FnOk.mk' Tryd.func148 (by kernel_rfl) rfl
theorem agg24 : AggT Tryd.prog 24 4 := ⟨⟨_, Tryd.underlying24, rfl⟩, by kernel_rfl⟩
theorem fok83 : FnOk Tryd.prog 83 := FnOk.mk' Tryd.func83 (by kernel_rfl) rfl
theorem sz22 : SizeT Tryd.prog 22 1 := (by unfold SizeT; kernel_rfl)
theorem arr24 : ArrT Tryd.prog 24 4 22 1 := ⟨Tryd.underlying24, sz22⟩
theorem one22 : OneT Tryd.prog 22 := ⟨⟨_, Tryd.underlying22, rfl⟩, by kernel_rfl⟩
theorem eqw24 : EqT Tryd.prog 24 := ⟨⟨22, arr24, one22, Tryd.underlying22⟩, by kernel_rfl⟩
theorem fok81 : FnOk Tryd.prog 81 := FnOk.mk' Tryd.func81 (by kernel_rfl) rfl
theorem fok53 : FnOk Tryd.prog 53 := FnOk.mk' Tryd.func53 (by kernel_rfl) rfl
theorem fok52 : FnOk Tryd.prog 52 := FnOk.mk' Tryd.func52 (by kernel_rfl) rfl
theorem fok85 : FnOk Tryd.prog 85 := FnOk.mk' Tryd.func85 (by kernel_rfl) rfl
theorem zero24 : ZeroT Tryd.prog 24 (.agg ([.int .u64 0, .int .u64 0, .int .u64 0, .int .u64 0]).toArray) := (by unfold ZeroT; kernel_rfl)
theorem sz24 : SizeT Tryd.prog 24 4 := (by unfold SizeT; kernel_rfl)
theorem fok33 : FnOk Tryd.prog 33 := FnOk.mk' Tryd.func33 (by kernel_rfl) rfl

theorem WordOrders (w : World) (x0 : Nat) (x1 : Nat) (x2 : Nat) :
    Calls Tryd.prog 16 [W x0, W x1, W x2].toArray w fun e w' => e = .returned (.bool true) ∧ WS w [] [] w' := by
  have hc := wcmp_fit x0 x1
  have hc2 := wcmp_fit x1 x0
  refine calls_of_T [] 120 [] Tryd.func16 rfl Tryd.ntmps16 (by simp) (WS.refl _ _) ?_
  refine T.seq ?_
  refine T.text [.l, .l, .l, .l] rfl ?_
  refine J.box 3 rfl rfl (wc x0) rfl rfl (fun g3 hg3 => ?_)
  refine J.box 4 rfl rfl (wc x1) rfl rfl (fun g4 hg4 => ?_)
  refine J.box 5 rfl rfl (wc x2) rfl rfl (fun g5 hg5 => ?_)
  refine J.assign rfl rfl ?_
  refine J.end ?_
  refine X.then ?_
  refine T.seq ?_
  refine T.text [.l, .l, .l, .l] rfl ?_
  refine J.loadN (k := .l) trivial 3 rfl rfl agg24 (wc x0) rfl rfl rfl ?_
  refine J.loadN (k := .l) trivial 4 rfl rfl agg24 (wc x1) rfl rfl rfl ?_
  refine J.call0 (k := .l) trivial fok83 rfl rfl (fun w hw => Wc.Cmp w _ _) ?_
  refine J.assign rfl rfl ?_
  refine J.end ?_
  refine X.then ?_
  refine T.seq ?_
  refine T.seq ?_
  refine T.draw [] [(0, .q), (1, .q), (2, .q), (3, .g), (4, .g), (5, .g), (6, .g), (7, .g), (8, .g), (9, .q), (10, .q), (11, .g), (12, .g), (13, .g), (14, .g), (15, .g), (16, .g), (17, .q), (18, .q), (19, .q), (20, .g), (21, .g), (22, .g), (23, .g), (24, .g), (25, .q), (26, .q), (27, .q), (28, .g), (29, .g), (30, .g), (31, .q), (32, .q), (33, .q), (34, .q), (35, .q), (36, .g), (37, .g), (38, .g), (39, .g), (40, .q), (41, .q), (42, .q), (43, .g), (44, .g), (45, .g), (46, .g)] (by kernel_rfl) (by kernel_rfl) ?_ (by repeat (first | exact Sub.nil _ | refine Sub.cons (by first | rfl | (rw [dgs_zero]; rfl) | (rw [List.drop_length]; rfl) | (simp; done) | (congr 2; omega) | (congr 3; omega)) ?_))
  refine J.loadN (k := .q) trivial 4 rfl rfl agg24 (wc x1) rfl rfl rfl ?_
  refine J.loadN (k := .q) trivial 3 rfl rfl agg24 (wc x0) rfl rfl rfl ?_
  refine J.call0 (k := .q) trivial fok83 rfl rfl (fun w hw => Wc.Cmp w _ _) ?_
  refine J.move rfl rfl ?_
  refine J.neg rfl rfl (by exact (congrArg _ (Int.zero_sub _)).trans (i64_ok _ (by omega))) ?_
  refine J.neq rfl rfl rfl rfl ?_
  refine J.as 18 (.bool false) rfl (by rw [decide_eq_false (by refine not_not_intro ?_; exact wcmp_flip x0 x1)]) ?_
  refine J.move rfl rfl ?_
  refine J.yes rfl rfl ?_
  refine J.move rfl rfl ?_
  refine J.yes rfl rfl ?_
  refine J.eql rfl rfl rfl rfl ?_
  refine J.yes rfl rfl ?_
  refine J.loadN (k := .q) trivial 3 rfl rfl agg24 (wc x0) rfl rfl rfl ?_
  refine J.yes rfl rfl ?_
  refine J.loadN (k := .q) trivial 4 rfl rfl agg24 (wc x1) rfl rfl rfl ?_
  refine J.yes rfl rfl ?_
  refine J.eqW eqw24 rfl rfl rfl ?_
  refine J.yes rfl rfl ?_
  refine J.neqB Tryd.underlying4 rfl rfl rfl (by exact neqB_same (by exact wcmp_zero x0 x1)) ?_
  refine J.pick_f rfl rfl rfl ?_
  refine J.move rfl rfl ?_
  refine J.yes rfl rfl ?_
  refine J.move rfl rfl ?_
  refine J.yes rfl rfl ?_
  refine J.lss rfl rfl rfl rfl ?_
  refine J.yes rfl rfl ?_
  refine J.loadN (k := .q) trivial 3 rfl rfl agg24 (wc x0) rfl rfl rfl ?_
  refine J.yes rfl rfl ?_
  refine J.loadN (k := .q) trivial 4 rfl rfl agg24 (wc x1) rfl rfl rfl ?_
  refine J.yes rfl rfl ?_
  refine J.call0 (k := .q) trivial fok54 rfl rfl (fun w hw => Wa.Lt w _ _) ?_
  refine J.yes rfl rfl ?_
  refine J.neqB Tryd.underlying4 rfl rfl rfl (by exact neqB_same (by exact wcmp_neg x0 x1)) ?_
  refine J.pick_f rfl rfl rfl ?_
  refine J.move rfl rfl ?_
  refine J.yes rfl rfl ?_
  refine J.move rfl rfl ?_
  refine J.yes rfl rfl ?_
  refine J.gtr rfl rfl rfl rfl ?_
  refine J.yes rfl rfl ?_
  refine J.loadN (k := .q) trivial 3 rfl rfl agg24 (wc x0) rfl rfl rfl ?_
  refine J.yes rfl rfl ?_
  refine J.loadN (k := .q) trivial 4 rfl rfl agg24 (wc x1) rfl rfl rfl ?_
  refine J.yes rfl rfl ?_
  refine J.call0 (k := .q) trivial fok55 rfl rfl (fun w hw => Wa.Gt w _ _) ?_
  refine J.yes rfl rfl ?_
  refine J.neqB Tryd.underlying4 rfl rfl rfl (by exact neqB_same (by exact wcmp_pos x0 x1)) ?_
  refine J.pick_f rfl rfl rfl ?_
  refine J.move rfl rfl ?_
  refine J.yes rfl rfl ?_
  refine J.loadN (k := .q) trivial 3 rfl rfl agg24 (wc x0) rfl rfl rfl ?_
  refine J.yes rfl rfl ?_
  refine J.loadN (k := .q) trivial 4 rfl rfl agg24 (wc x1) rfl rfl rfl ?_
  refine J.yes rfl rfl ?_
  refine J.call0 (k := .q) trivial fok79 rfl rfl (fun w hw => We.Eq w _ _) ?_
  refine J.yes rfl rfl ?_
  refine J.loadN (k := .q) trivial 3 rfl rfl agg24 (wc x0) rfl rfl rfl ?_
  refine J.yes rfl rfl ?_
  refine J.loadN (k := .q) trivial 4 rfl rfl agg24 (wc x1) rfl rfl rfl ?_
  refine J.yes rfl rfl ?_
  refine J.eqW eqw24 rfl rfl rfl ?_
  refine J.yes rfl rfl ?_
  refine J.neqB Tryd.underlying4 rfl rfl rfl (by exact neqB_same (by exact Iff.rfl)) ?_
  refine J.pick_f rfl rfl rfl ?_
  refine J.move rfl rfl ?_
  refine J.yes rfl rfl ?_
  refine J.loadN (k := .q) trivial 3 rfl rfl agg24 (wc x0) rfl rfl rfl ?_
  refine J.yes rfl rfl ?_
  refine J.call0 (k := .q) trivial fok81 rfl rfl (fun w hw => Wa.IsZero w _) ?_
  refine J.yes rfl rfl ?_
  refine J.loadN (k := .q) trivial 3 rfl rfl agg24 (wc x0) rfl rfl rfl ?_
  refine J.yes rfl rfl ?_
  refine J.build rfl rfl (W 0) (fun w => by kernel_rfl) ?_
  refine J.yes rfl rfl ?_
  refine J.eqW eqw24 rfl rfl rfl ?_
  refine J.yes rfl rfl ?_
  refine J.neqB Tryd.underlying4 rfl rfl rfl (by exact neqB_same (by exact Iff.rfl)) ?_
  refine J.pick_f rfl rfl rfl ?_
  refine J.end ?_
  refine X.then ?_
  refine T.cond_false rfl ?_
  refine T.skip ?_
  refine X.then ?_
  refine T.seq ?_
  refine T.seq ?_
  refine T.text [.l, .l, .l, .l, .l, .l, .l, .l, .l, .l, .l, .l, .l, .l, .l, .l, .l, .l, .l] rfl ?_
  refine J.loadN (k := .l) trivial 3 rfl rfl agg24 (wc x0) rfl rfl rfl ?_
  refine J.loadN (k := .l) trivial 4 rfl rfl agg24 (wc x1) rfl rfl rfl ?_
  refine J.call0 (k := .l) trivial fok54 rfl rfl (fun w hw => Wa.Lt w _ _) ?_
  refine J.move rfl rfl ?_
  refine J.split 63 rfl (fun h1 => ?_) (fun h1 => ?_)
  · skip
    refine J.yes rfl rfl ?_
    refine J.loadN (k := .l) trivial 4 rfl rfl agg24 (wc x1) rfl rfl rfl ?_
    refine J.yes rfl rfl ?_
    refine J.loadN (k := .l) trivial 5 rfl rfl agg24 (wc x2) rfl rfl rfl ?_
    refine J.yes rfl rfl ?_
    refine J.call0 (k := .l) trivial fok54 rfl rfl (fun w hw => Wa.Lt w _ _) ?_
    refine J.pick_t rfl rfl rfl ?_
    refine J.move rfl rfl ?_
    refine J.split 68 rfl (fun h2 => ?_) (fun h2 => ?_)
    · skip
      refine J.yes rfl rfl ?_
      refine J.loadN (k := .l) trivial 3 rfl rfl agg24 (wc x0) rfl rfl rfl ?_
      refine J.yes rfl rfl ?_
      refine J.loadN (k := .l) trivial 5 rfl rfl agg24 (wc x2) rfl rfl rfl ?_
      refine J.yes rfl rfl ?_
      refine J.call0 (k := .l) trivial fok54 rfl rfl (fun w hw => Wa.Lt w _ _) ?_
      refine J.as 71 (.bool true) rfl (by rw [decide_eq_true (by omega)]) ?_
      refine J.yes rfl rfl ?_
      refine J.not rfl rfl rfl ?_
      refine J.pick_t rfl rfl rfl ?_
      refine J.move rfl rfl ?_
      refine J.yes rfl rfl ?_
      refine J.loadN (k := .l) trivial 3 rfl rfl agg24 (wc x0) rfl rfl rfl ?_
      refine J.yes rfl rfl ?_
      refine J.build rfl rfl (W 0) (fun w => by kernel_rfl) ?_
      refine J.yes rfl rfl ?_
      refine J.call0 (k := .l) trivial fok54 rfl rfl (fun w hw => Wa.Lt w _ _) ?_
      refine J.as 77 (.bool false) rfl (by rw [decide_eq_false (by omega)]) ?_
      refine J.pick_f rfl rfl rfl ?_
      refine J.end ?_
      refine X.then ?_
      refine T.cond_false rfl ?_
      refine T.skip ?_
      refine X.then ?_
      refine T.seq ?_
      refine T.seq ?_
      refine T.draw [] [(0, .q), (1, .q), (2, .g), (3, .g), (4, .q), (5, .q), (6, .q), (7, .q), (8, .q), (9, .g), (10, .g)] (by kernel_rfl) (by kernel_rfl) ?_ (by repeat (first | exact Sub.nil _ | refine Sub.cons (by first | rfl | (rw [dgs_zero]; rfl) | (rw [List.drop_length]; rfl) | (simp; done) | (congr 2; omega) | (congr 3; omega)) ?_))
      refine J.loadN (k := .q) trivial 3 rfl rfl agg24 (wc x0) rfl rfl rfl ?_
      refine J.call0 (k := .q) trivial fok53 rfl rfl (fun w hw => Wk.most w) ?_
      refine J.neqW eqw24 rfl rfl rfl ?_
      refine J.move rfl rfl ?_
      refine J.split 82 rfl (fun h3 => ?_) (fun h3 => ?_)
      · skip
        refine J.yes rfl rfl ?_
        refine J.loadN (k := .q) trivial 3 rfl rfl agg24 (wc x0) rfl rfl rfl ?_
        refine J.yes rfl rfl ?_
        refine J.loadN (k := .q) trivial 3 rfl rfl agg24 (wc x0) rfl rfl rfl ?_
        refine J.yes rfl rfl ?_
        refine J.call0 (k := .q) trivial fok52 rfl rfl (fun w hw => Wk.one w) ?_
        refine J.yes rfl rfl ?_
        refine J.call0 (k := .q) trivial fok23 rfl rfl (fun w hw => Wb.Add w _ _) ?_
        refine J.yes rfl rfl ?_
        refine J.call0 (k := .q) trivial fok54 rfl rfl (fun w hw => Wa.Lt w _ _) ?_
        refine J.as 87 (.bool true) rfl (by rw [decide_eq_true (by omega)]) ?_
        refine J.yes rfl rfl ?_
        refine J.not rfl rfl rfl ?_
        refine J.pick_t rfl rfl rfl ?_
        refine J.end ?_
        refine X.then ?_
        refine T.cond_false rfl ?_
        refine T.skip ?_
        refine X.then ?_
        refine T.seq ?_
        refine T.draw [] [(0, .q), (1, .q), (2, .q), (3, .a 8), (4, .l)] (by kernel_rfl) (by kernel_rfl) ?_ (by repeat (first | exact Sub.nil _ | refine Sub.cons (by first | rfl | (rw [dgs_zero]; rfl) | (rw [List.drop_length]; rfl) | (simp; done) | (congr 2; omega) | (congr 3; omega)) ?_))
        refine J.loadN (k := .q) trivial 3 rfl rfl agg24 (wc x0) rfl rfl rfl ?_
        refine J.call0 (k := .q) trivial fok85 rfl rfl (fun w hw => Wk.top w) ?_
        refine J.call0 (k := .q) trivial fok66 rfl rfl (fun w hw => We.Xor w _ _) ?_
        refine J.allocA 8 rfl rfl zero24 [.int .u64 0, .int .u64 0, .int .u64 0, .int .u64 0] rfl rfl (fun g8 hg8 => ?_)
        refine J.store 8 rfl rfl rfl rfl (wc (x0 ^^^ 57896044618658097711785492504343953926634992332820282019728792003956564819968)) rfl sz24 (by first | decide | exact Nat.le_refl _ | exact Nat.le_of_ble_eq_true rfl | (simp [rowN]; done) | (simp [rowN]; omega)) (by first | exact rowN_one _ _ | (simp; done) | (intro u hu; simp at hu; subst hu; rfl) | (intro u hu; simp at hu; rcases hu with rfl | rfl <;> rfl)) (by first | decide | exact Nat.zero_lt_succ _ | simp) trivial (wc (x0 ^^^ 57896044618658097711785492504343953926634992332820282019728792003956564819968)) rfl ?_
        refine J.end ?_
        refine X.then ?_
        refine T.seq ?_
        refine T.draw [] [(0, .q), (1, .q), (2, .q), (3, .a 9), (4, .l)] (by kernel_rfl) (by kernel_rfl) ?_ (by repeat (first | exact Sub.nil _ | refine Sub.cons (by first | rfl | (rw [dgs_zero]; rfl) | (rw [List.drop_length]; rfl) | (simp; done) | (congr 2; omega) | (congr 3; omega)) ?_))
        refine J.loadN (k := .q) trivial 4 rfl rfl agg24 (wc x1) rfl rfl rfl ?_
        refine J.call0 (k := .q) trivial fok85 rfl rfl (fun w hw => Wk.top w) ?_
        refine J.call0 (k := .q) trivial fok66 rfl rfl (fun w hw => We.Xor w _ _) ?_
        refine J.allocA 9 rfl rfl zero24 [.int .u64 0, .int .u64 0, .int .u64 0, .int .u64 0] rfl rfl (fun g9 hg9 => ?_)
        refine J.store 9 rfl rfl rfl rfl (wc (x1 ^^^ 57896044618658097711785492504343953926634992332820282019728792003956564819968)) rfl sz24 (by first | decide | exact Nat.le_refl _ | exact Nat.le_of_ble_eq_true rfl | (simp [rowN]; done) | (simp [rowN]; omega)) (by first | exact rowN_one _ _ | (simp; done) | (intro u hu; simp at hu; subst hu; rfl) | (intro u hu; simp at hu; rcases hu with rfl | rfl <;> rfl)) (by first | decide | exact Nat.zero_lt_succ _ | simp) trivial (wc (x1 ^^^ 57896044618658097711785492504343953926634992332820282019728792003956564819968)) rfl ?_
        refine J.end ?_
        refine X.then ?_
        refine T.seq ?_
        refine T.draw [] [(0, .q), (1, .q), (2, .q), (3, .q), (4, .q), (5, .q), (6, .g), (7, .g), (8, .q), (9, .q), (10, .q), (11, .q), (12, .q), (13, .q), (14, .g), (15, .g), (16, .g), (17, .g), (18, .g), (19, .q), (20, .g), (21, .g), (22, .q), (23, .g), (24, .g)] (by kernel_rfl) (by kernel_rfl) ?_ (by repeat (first | exact Sub.nil _ | refine Sub.cons (by first | rfl | (rw [dgs_zero]; rfl) | (rw [List.drop_length]; rfl) | (simp; done) | (congr 2; omega) | (congr 3; omega)) ?_))
        refine J.loadN (k := .q) trivial 3 rfl rfl agg24 (wc x0) rfl rfl rfl ?_
        refine J.loadN (k := .q) trivial 4 rfl rfl agg24 (wc x1) rfl rfl rfl ?_
        refine J.call0 (k := .q) trivial fok38 rfl rfl (fun w hw => We.SLt w _ _) ?_
        refine J.loadN (k := .q) trivial 8 rfl rfl agg24 (wc (x0 ^^^ 57896044618658097711785492504343953926634992332820282019728792003956564819968)) rfl rfl rfl ?_
        refine J.loadN (k := .q) trivial 9 rfl rfl agg24 (wc (x1 ^^^ 57896044618658097711785492504343953926634992332820282019728792003956564819968)) rfl rfl rfl ?_
        refine J.call0 (k := .q) trivial fok54 rfl rfl (fun w hw => Wa.Lt w _ _) ?_
        refine J.eqB Tryd.underlying4 rfl rfl rfl (by exact eqB_same (by exact slt_xor x0 x1)) ?_
        refine J.move rfl rfl ?_
        refine J.yes rfl rfl ?_
        refine J.loadN (k := .q) trivial 3 rfl rfl agg24 (wc x0) rfl rfl rfl ?_
        refine J.yes rfl rfl ?_
        refine J.loadN (k := .q) trivial 4 rfl rfl agg24 (wc x1) rfl rfl rfl ?_
        refine J.yes rfl rfl ?_
        refine J.call0 (k := .q) trivial fok40 rfl rfl (fun w hw => We.SGt w _ _) ?_
        refine J.yes rfl rfl ?_
        refine J.loadN (k := .q) trivial 9 rfl rfl agg24 (wc (x1 ^^^ 57896044618658097711785492504343953926634992332820282019728792003956564819968)) rfl rfl rfl ?_
        refine J.yes rfl rfl ?_
        refine J.loadN (k := .q) trivial 8 rfl rfl agg24 (wc (x0 ^^^ 57896044618658097711785492504343953926634992332820282019728792003956564819968)) rfl rfl rfl ?_
        refine J.yes rfl rfl ?_
        refine J.call0 (k := .q) trivial fok54 rfl rfl (fun w hw => Wa.Lt w _ _) ?_
        refine J.yes rfl rfl ?_
        refine J.eqB Tryd.underlying4 rfl rfl rfl (by exact eqB_same (by exact slt_xor x1 x0)) ?_
        refine J.pick_t rfl rfl rfl ?_
        refine J.move rfl rfl ?_
        refine J.yes rfl rfl ?_
        refine J.build rfl rfl (W 5) (fun w => by kernel_rfl) ?_
        refine J.yes rfl rfl ?_
        refine J.build rfl rfl (W 18446744073709551616) (fun w => by kernel_rfl) ?_
        refine J.yes rfl rfl ?_
        refine J.call0 (k := .q) trivial fok54 rfl rfl (fun w hw => Wa.Lt w _ _) ?_
        refine J.as 115 (.bool true) rfl (by rw [decide_eq_true (by decide)]) ?_
        refine J.pick_t rfl rfl rfl ?_
        refine J.move rfl rfl ?_
        refine J.yes rfl rfl ?_
        refine J.call0 (k := .q) trivial fok33 rfl rfl (fun w hw => Wk.awake w) ?_
        refine J.pick_t rfl rfl rfl ?_
        refine J.assign rfl rfl ?_
        refine J.end ?_
        refine X.then ?_
        refine T.ret ?_
        exact X.ret1 rfl (RV.tmp rfl) (fun w' hw' => ⟨rfl, hw'.sub (Sub.nil _)⟩)
      · skip
        refine J.no rfl rfl rfl rfl ?_
        refine J.no rfl rfl rfl rfl ?_
        refine J.no rfl rfl rfl rfl ?_
        refine J.no rfl rfl rfl rfl ?_
        refine J.no rfl rfl rfl rfl ?_
        refine J.no rfl rfl rfl rfl ?_
        refine J.pick_f rfl rfl rfl ?_
        refine J.end ?_
        refine X.then ?_
        refine T.cond_false rfl ?_
        refine T.skip ?_
        refine X.then ?_
        refine T.seq ?_
        refine T.draw [] [(0, .q), (1, .q), (2, .q), (3, .a 8), (4, .l)] (by kernel_rfl) (by kernel_rfl) ?_ (by repeat (first | exact Sub.nil _ | refine Sub.cons (by first | rfl | (rw [dgs_zero]; rfl) | (rw [List.drop_length]; rfl) | (simp; done) | (congr 2; omega) | (congr 3; omega)) ?_))
        refine J.loadN (k := .q) trivial 3 rfl rfl agg24 (wc x0) rfl rfl rfl ?_
        refine J.call0 (k := .q) trivial fok85 rfl rfl (fun w hw => Wk.top w) ?_
        refine J.call0 (k := .q) trivial fok66 rfl rfl (fun w hw => We.Xor w _ _) ?_
        refine J.allocA 8 rfl rfl zero24 [.int .u64 0, .int .u64 0, .int .u64 0, .int .u64 0] rfl rfl (fun g8 hg8 => ?_)
        refine J.store 8 rfl rfl rfl rfl (wc (x0 ^^^ 57896044618658097711785492504343953926634992332820282019728792003956564819968)) rfl sz24 (by first | decide | exact Nat.le_refl _ | exact Nat.le_of_ble_eq_true rfl | (simp [rowN]; done) | (simp [rowN]; omega)) (by first | exact rowN_one _ _ | (simp; done) | (intro u hu; simp at hu; subst hu; rfl) | (intro u hu; simp at hu; rcases hu with rfl | rfl <;> rfl)) (by first | decide | exact Nat.zero_lt_succ _ | simp) trivial (wc (x0 ^^^ 57896044618658097711785492504343953926634992332820282019728792003956564819968)) rfl ?_
        refine J.end ?_
        refine X.then ?_
        refine T.seq ?_
        refine T.draw [] [(0, .q), (1, .q), (2, .q), (3, .a 9), (4, .l)] (by kernel_rfl) (by kernel_rfl) ?_ (by repeat (first | exact Sub.nil _ | refine Sub.cons (by first | rfl | (rw [dgs_zero]; rfl) | (rw [List.drop_length]; rfl) | (simp; done) | (congr 2; omega) | (congr 3; omega)) ?_))
        refine J.loadN (k := .q) trivial 4 rfl rfl agg24 (wc x1) rfl rfl rfl ?_
        refine J.call0 (k := .q) trivial fok85 rfl rfl (fun w hw => Wk.top w) ?_
        refine J.call0 (k := .q) trivial fok66 rfl rfl (fun w hw => We.Xor w _ _) ?_
        refine J.allocA 9 rfl rfl zero24 [.int .u64 0, .int .u64 0, .int .u64 0, .int .u64 0] rfl rfl (fun g9 hg9 => ?_)
        refine J.store 9 rfl rfl rfl rfl (wc (x1 ^^^ 57896044618658097711785492504343953926634992332820282019728792003956564819968)) rfl sz24 (by first | decide | exact Nat.le_refl _ | exact Nat.le_of_ble_eq_true rfl | (simp [rowN]; done) | (simp [rowN]; omega)) (by first | exact rowN_one _ _ | (simp; done) | (intro u hu; simp at hu; subst hu; rfl) | (intro u hu; simp at hu; rcases hu with rfl | rfl <;> rfl)) (by first | decide | exact Nat.zero_lt_succ _ | simp) trivial (wc (x1 ^^^ 57896044618658097711785492504343953926634992332820282019728792003956564819968)) rfl ?_
        refine J.end ?_
        refine X.then ?_
        refine T.seq ?_
        refine T.draw [] [(0, .q), (1, .q), (2, .q), (3, .q), (4, .q), (5, .q), (6, .g), (7, .g), (8, .q), (9, .q), (10, .q), (11, .q), (12, .q), (13, .q), (14, .g), (15, .g), (16, .g), (17, .g), (18, .g), (19, .q), (20, .g), (21, .g), (22, .q), (23, .g), (24, .g)] (by kernel_rfl) (by kernel_rfl) ?_ (by repeat (first | exact Sub.nil _ | refine Sub.cons (by first | rfl | (rw [dgs_zero]; rfl) | (rw [List.drop_length]; rfl) | (simp; done) | (congr 2; omega) | (congr 3; omega)) ?_))
        refine J.loadN (k := .q) trivial 3 rfl rfl agg24 (wc x0) rfl rfl rfl ?_
        refine J.loadN (k := .q) trivial 4 rfl rfl agg24 (wc x1) rfl rfl rfl ?_
        refine J.call0 (k := .q) trivial fok38 rfl rfl (fun w hw => We.SLt w _ _) ?_
        refine J.loadN (k := .q) trivial 8 rfl rfl agg24 (wc (x0 ^^^ 57896044618658097711785492504343953926634992332820282019728792003956564819968)) rfl rfl rfl ?_
        refine J.loadN (k := .q) trivial 9 rfl rfl agg24 (wc (x1 ^^^ 57896044618658097711785492504343953926634992332820282019728792003956564819968)) rfl rfl rfl ?_
        refine J.call0 (k := .q) trivial fok54 rfl rfl (fun w hw => Wa.Lt w _ _) ?_
        refine J.eqB Tryd.underlying4 rfl rfl rfl (by exact eqB_same (by exact slt_xor x0 x1)) ?_
        refine J.move rfl rfl ?_
        refine J.yes rfl rfl ?_
        refine J.loadN (k := .q) trivial 3 rfl rfl agg24 (wc x0) rfl rfl rfl ?_
        refine J.yes rfl rfl ?_
        refine J.loadN (k := .q) trivial 4 rfl rfl agg24 (wc x1) rfl rfl rfl ?_
        refine J.yes rfl rfl ?_
        refine J.call0 (k := .q) trivial fok40 rfl rfl (fun w hw => We.SGt w _ _) ?_
        refine J.yes rfl rfl ?_
        refine J.loadN (k := .q) trivial 9 rfl rfl agg24 (wc (x1 ^^^ 57896044618658097711785492504343953926634992332820282019728792003956564819968)) rfl rfl rfl ?_
        refine J.yes rfl rfl ?_
        refine J.loadN (k := .q) trivial 8 rfl rfl agg24 (wc (x0 ^^^ 57896044618658097711785492504343953926634992332820282019728792003956564819968)) rfl rfl rfl ?_
        refine J.yes rfl rfl ?_
        refine J.call0 (k := .q) trivial fok54 rfl rfl (fun w hw => Wa.Lt w _ _) ?_
        refine J.yes rfl rfl ?_
        refine J.eqB Tryd.underlying4 rfl rfl rfl (by exact eqB_same (by exact slt_xor x1 x0)) ?_
        refine J.pick_t rfl rfl rfl ?_
        refine J.move rfl rfl ?_
        refine J.yes rfl rfl ?_
        refine J.build rfl rfl (W 5) (fun w => by kernel_rfl) ?_
        refine J.yes rfl rfl ?_
        refine J.build rfl rfl (W 18446744073709551616) (fun w => by kernel_rfl) ?_
        refine J.yes rfl rfl ?_
        refine J.call0 (k := .q) trivial fok54 rfl rfl (fun w hw => Wa.Lt w _ _) ?_
        refine J.as 115 (.bool true) rfl (by rw [decide_eq_true (by decide)]) ?_
        refine J.pick_t rfl rfl rfl ?_
        refine J.move rfl rfl ?_
        refine J.yes rfl rfl ?_
        refine J.call0 (k := .q) trivial fok33 rfl rfl (fun w hw => Wk.awake w) ?_
        refine J.pick_t rfl rfl rfl ?_
        refine J.assign rfl rfl ?_
        refine J.end ?_
        refine X.then ?_
        refine T.ret ?_
        exact X.ret1 rfl (RV.tmp rfl) (fun w' hw' => ⟨rfl, hw'.sub (Sub.nil _)⟩)
    · skip
      refine J.no rfl rfl rfl rfl ?_
      refine J.no rfl rfl rfl rfl ?_
      refine J.no rfl rfl rfl rfl ?_
      refine J.no rfl rfl rfl rfl ?_
      refine J.pick_f rfl rfl rfl ?_
      refine J.move rfl rfl ?_
      refine J.yes rfl rfl ?_
      refine J.loadN (k := .l) trivial 3 rfl rfl agg24 (wc x0) rfl rfl rfl ?_
      refine J.yes rfl rfl ?_
      refine J.build rfl rfl (W 0) (fun w => by kernel_rfl) ?_
      refine J.yes rfl rfl ?_
      refine J.call0 (k := .l) trivial fok54 rfl rfl (fun w hw => Wa.Lt w _ _) ?_
      refine J.as 77 (.bool false) rfl (by rw [decide_eq_false (by omega)]) ?_
      refine J.pick_f rfl rfl rfl ?_
      refine J.end ?_
      refine X.then ?_
      refine T.cond_false rfl ?_
      refine T.skip ?_
      refine X.then ?_
      refine T.seq ?_
      refine T.seq ?_
      refine T.draw [] [(0, .q), (1, .q), (2, .g), (3, .g), (4, .q), (5, .q), (6, .q), (7, .q), (8, .q), (9, .g), (10, .g)] (by kernel_rfl) (by kernel_rfl) ?_ (by repeat (first | exact Sub.nil _ | refine Sub.cons (by first | rfl | (rw [dgs_zero]; rfl) | (rw [List.drop_length]; rfl) | (simp; done) | (congr 2; omega) | (congr 3; omega)) ?_))
      refine J.loadN (k := .q) trivial 3 rfl rfl agg24 (wc x0) rfl rfl rfl ?_
      refine J.call0 (k := .q) trivial fok53 rfl rfl (fun w hw => Wk.most w) ?_
      refine J.neqW eqw24 rfl rfl rfl ?_
      refine J.move rfl rfl ?_
      refine J.split 82 rfl (fun h4 => ?_) (fun h4 => ?_)
      · skip
        refine J.yes rfl rfl ?_
        refine J.loadN (k := .q) trivial 3 rfl rfl agg24 (wc x0) rfl rfl rfl ?_
        refine J.yes rfl rfl ?_
        refine J.loadN (k := .q) trivial 3 rfl rfl agg24 (wc x0) rfl rfl rfl ?_
        refine J.yes rfl rfl ?_
        refine J.call0 (k := .q) trivial fok52 rfl rfl (fun w hw => Wk.one w) ?_
        refine J.yes rfl rfl ?_
        refine J.call0 (k := .q) trivial fok23 rfl rfl (fun w hw => Wb.Add w _ _) ?_
        refine J.yes rfl rfl ?_
        refine J.call0 (k := .q) trivial fok54 rfl rfl (fun w hw => Wa.Lt w _ _) ?_
        refine J.as 87 (.bool true) rfl (by rw [decide_eq_true (by omega)]) ?_
        refine J.yes rfl rfl ?_
        refine J.not rfl rfl rfl ?_
        refine J.pick_t rfl rfl rfl ?_
        refine J.end ?_
        refine X.then ?_
        refine T.cond_false rfl ?_
        refine T.skip ?_
        refine X.then ?_
        refine T.seq ?_
        refine T.draw [] [(0, .q), (1, .q), (2, .q), (3, .a 8), (4, .l)] (by kernel_rfl) (by kernel_rfl) ?_ (by repeat (first | exact Sub.nil _ | refine Sub.cons (by first | rfl | (rw [dgs_zero]; rfl) | (rw [List.drop_length]; rfl) | (simp; done) | (congr 2; omega) | (congr 3; omega)) ?_))
        refine J.loadN (k := .q) trivial 3 rfl rfl agg24 (wc x0) rfl rfl rfl ?_
        refine J.call0 (k := .q) trivial fok85 rfl rfl (fun w hw => Wk.top w) ?_
        refine J.call0 (k := .q) trivial fok66 rfl rfl (fun w hw => We.Xor w _ _) ?_
        refine J.allocA 8 rfl rfl zero24 [.int .u64 0, .int .u64 0, .int .u64 0, .int .u64 0] rfl rfl (fun g8 hg8 => ?_)
        refine J.store 8 rfl rfl rfl rfl (wc (x0 ^^^ 57896044618658097711785492504343953926634992332820282019728792003956564819968)) rfl sz24 (by first | decide | exact Nat.le_refl _ | exact Nat.le_of_ble_eq_true rfl | (simp [rowN]; done) | (simp [rowN]; omega)) (by first | exact rowN_one _ _ | (simp; done) | (intro u hu; simp at hu; subst hu; rfl) | (intro u hu; simp at hu; rcases hu with rfl | rfl <;> rfl)) (by first | decide | exact Nat.zero_lt_succ _ | simp) trivial (wc (x0 ^^^ 57896044618658097711785492504343953926634992332820282019728792003956564819968)) rfl ?_
        refine J.end ?_
        refine X.then ?_
        refine T.seq ?_
        refine T.draw [] [(0, .q), (1, .q), (2, .q), (3, .a 9), (4, .l)] (by kernel_rfl) (by kernel_rfl) ?_ (by repeat (first | exact Sub.nil _ | refine Sub.cons (by first | rfl | (rw [dgs_zero]; rfl) | (rw [List.drop_length]; rfl) | (simp; done) | (congr 2; omega) | (congr 3; omega)) ?_))
        refine J.loadN (k := .q) trivial 4 rfl rfl agg24 (wc x1) rfl rfl rfl ?_
        refine J.call0 (k := .q) trivial fok85 rfl rfl (fun w hw => Wk.top w) ?_
        refine J.call0 (k := .q) trivial fok66 rfl rfl (fun w hw => We.Xor w _ _) ?_
        refine J.allocA 9 rfl rfl zero24 [.int .u64 0, .int .u64 0, .int .u64 0, .int .u64 0] rfl rfl (fun g9 hg9 => ?_)
        refine J.store 9 rfl rfl rfl rfl (wc (x1 ^^^ 57896044618658097711785492504343953926634992332820282019728792003956564819968)) rfl sz24 (by first | decide | exact Nat.le_refl _ | exact Nat.le_of_ble_eq_true rfl | (simp [rowN]; done) | (simp [rowN]; omega)) (by first | exact rowN_one _ _ | (simp; done) | (intro u hu; simp at hu; subst hu; rfl) | (intro u hu; simp at hu; rcases hu with rfl | rfl <;> rfl)) (by first | decide | exact Nat.zero_lt_succ _ | simp) trivial (wc (x1 ^^^ 57896044618658097711785492504343953926634992332820282019728792003956564819968)) rfl ?_
        refine J.end ?_
        refine X.then ?_
        refine T.seq ?_
        refine T.draw [] [(0, .q), (1, .q), (2, .q), (3, .q), (4, .q), (5, .q), (6, .g), (7, .g), (8, .q), (9, .q), (10, .q), (11, .q), (12, .q), (13, .q), (14, .g), (15, .g), (16, .g), (17, .g), (18, .g), (19, .q), (20, .g), (21, .g), (22, .q), (23, .g), (24, .g)] (by kernel_rfl) (by kernel_rfl) ?_ (by repeat (first | exact Sub.nil _ | refine Sub.cons (by first | rfl | (rw [dgs_zero]; rfl) | (rw [List.drop_length]; rfl) | (simp; done) | (congr 2; omega) | (congr 3; omega)) ?_))
        refine J.loadN (k := .q) trivial 3 rfl rfl agg24 (wc x0) rfl rfl rfl ?_
        refine J.loadN (k := .q) trivial 4 rfl rfl agg24 (wc x1) rfl rfl rfl ?_
        refine J.call0 (k := .q) trivial fok38 rfl rfl (fun w hw => We.SLt w _ _) ?_
        refine J.loadN (k := .q) trivial 8 rfl rfl agg24 (wc (x0 ^^^ 57896044618658097711785492504343953926634992332820282019728792003956564819968)) rfl rfl rfl ?_
        refine J.loadN (k := .q) trivial 9 rfl rfl agg24 (wc (x1 ^^^ 57896044618658097711785492504343953926634992332820282019728792003956564819968)) rfl rfl rfl ?_
        refine J.call0 (k := .q) trivial fok54 rfl rfl (fun w hw => Wa.Lt w _ _) ?_
        refine J.eqB Tryd.underlying4 rfl rfl rfl (by exact eqB_same (by exact slt_xor x0 x1)) ?_
        refine J.move rfl rfl ?_
        refine J.yes rfl rfl ?_
        refine J.loadN (k := .q) trivial 3 rfl rfl agg24 (wc x0) rfl rfl rfl ?_
        refine J.yes rfl rfl ?_
        refine J.loadN (k := .q) trivial 4 rfl rfl agg24 (wc x1) rfl rfl rfl ?_
        refine J.yes rfl rfl ?_
        refine J.call0 (k := .q) trivial fok40 rfl rfl (fun w hw => We.SGt w _ _) ?_
        refine J.yes rfl rfl ?_
        refine J.loadN (k := .q) trivial 9 rfl rfl agg24 (wc (x1 ^^^ 57896044618658097711785492504343953926634992332820282019728792003956564819968)) rfl rfl rfl ?_
        refine J.yes rfl rfl ?_
        refine J.loadN (k := .q) trivial 8 rfl rfl agg24 (wc (x0 ^^^ 57896044618658097711785492504343953926634992332820282019728792003956564819968)) rfl rfl rfl ?_
        refine J.yes rfl rfl ?_
        refine J.call0 (k := .q) trivial fok54 rfl rfl (fun w hw => Wa.Lt w _ _) ?_
        refine J.yes rfl rfl ?_
        refine J.eqB Tryd.underlying4 rfl rfl rfl (by exact eqB_same (by exact slt_xor x1 x0)) ?_
        refine J.pick_t rfl rfl rfl ?_
        refine J.move rfl rfl ?_
        refine J.yes rfl rfl ?_
        refine J.build rfl rfl (W 5) (fun w => by kernel_rfl) ?_
        refine J.yes rfl rfl ?_
        refine J.build rfl rfl (W 18446744073709551616) (fun w => by kernel_rfl) ?_
        refine J.yes rfl rfl ?_
        refine J.call0 (k := .q) trivial fok54 rfl rfl (fun w hw => Wa.Lt w _ _) ?_
        refine J.as 115 (.bool true) rfl (by rw [decide_eq_true (by decide)]) ?_
        refine J.pick_t rfl rfl rfl ?_
        refine J.move rfl rfl ?_
        refine J.yes rfl rfl ?_
        refine J.call0 (k := .q) trivial fok33 rfl rfl (fun w hw => Wk.awake w) ?_
        refine J.pick_t rfl rfl rfl ?_
        refine J.assign rfl rfl ?_
        refine J.end ?_
        refine X.then ?_
        refine T.ret ?_
        exact X.ret1 rfl (RV.tmp rfl) (fun w' hw' => ⟨rfl, hw'.sub (Sub.nil _)⟩)
      · skip
        refine J.no rfl rfl rfl rfl ?_
        refine J.no rfl rfl rfl rfl ?_
        refine J.no rfl rfl rfl rfl ?_
        refine J.no rfl rfl rfl rfl ?_
        refine J.no rfl rfl rfl rfl ?_
        refine J.no rfl rfl rfl rfl ?_
        refine J.pick_f rfl rfl rfl ?_
        refine J.end ?_
        refine X.then ?_
        refine T.cond_false rfl ?_
        refine T.skip ?_
        refine X.then ?_
        refine T.seq ?_
        refine T.draw [] [(0, .q), (1, .q), (2, .q), (3, .a 8), (4, .l)] (by kernel_rfl) (by kernel_rfl) ?_ (by repeat (first | exact Sub.nil _ | refine Sub.cons (by first | rfl | (rw [dgs_zero]; rfl) | (rw [List.drop_length]; rfl) | (simp; done) | (congr 2; omega) | (congr 3; omega)) ?_))
        refine J.loadN (k := .q) trivial 3 rfl rfl agg24 (wc x0) rfl rfl rfl ?_
        refine J.call0 (k := .q) trivial fok85 rfl rfl (fun w hw => Wk.top w) ?_
        refine J.call0 (k := .q) trivial fok66 rfl rfl (fun w hw => We.Xor w _ _) ?_
        refine J.allocA 8 rfl rfl zero24 [.int .u64 0, .int .u64 0, .int .u64 0, .int .u64 0] rfl rfl (fun g8 hg8 => ?_)
        refine J.store 8 rfl rfl rfl rfl (wc (x0 ^^^ 57896044618658097711785492504343953926634992332820282019728792003956564819968)) rfl sz24 (by first | decide | exact Nat.le_refl _ | exact Nat.le_of_ble_eq_true rfl | (simp [rowN]; done) | (simp [rowN]; omega)) (by first | exact rowN_one _ _ | (simp; done) | (intro u hu; simp at hu; subst hu; rfl) | (intro u hu; simp at hu; rcases hu with rfl | rfl <;> rfl)) (by first | decide | exact Nat.zero_lt_succ _ | simp) trivial (wc (x0 ^^^ 57896044618658097711785492504343953926634992332820282019728792003956564819968)) rfl ?_
        refine J.end ?_
        refine X.then ?_
        refine T.seq ?_
        refine T.draw [] [(0, .q), (1, .q), (2, .q), (3, .a 9), (4, .l)] (by kernel_rfl) (by kernel_rfl) ?_ (by repeat (first | exact Sub.nil _ | refine Sub.cons (by first | rfl | (rw [dgs_zero]; rfl) | (rw [List.drop_length]; rfl) | (simp; done) | (congr 2; omega) | (congr 3; omega)) ?_))
        refine J.loadN (k := .q) trivial 4 rfl rfl agg24 (wc x1) rfl rfl rfl ?_
        refine J.call0 (k := .q) trivial fok85 rfl rfl (fun w hw => Wk.top w) ?_
        refine J.call0 (k := .q) trivial fok66 rfl rfl (fun w hw => We.Xor w _ _) ?_
        refine J.allocA 9 rfl rfl zero24 [.int .u64 0, .int .u64 0, .int .u64 0, .int .u64 0] rfl rfl (fun g9 hg9 => ?_)
        refine J.store 9 rfl rfl rfl rfl (wc (x1 ^^^ 57896044618658097711785492504343953926634992332820282019728792003956564819968)) rfl sz24 (by first | decide | exact Nat.le_refl _ | exact Nat.le_of_ble_eq_true rfl | (simp [rowN]; done) | (simp [rowN]; omega)) (by first | exact rowN_one _ _ | (simp; done) | (intro u hu; simp at hu; subst hu; rfl) | (intro u hu; simp at hu; rcases hu with rfl | rfl <;> rfl)) (by first | decide | exact Nat.zero_lt_succ _ | simp) trivial (wc (x1 ^^^ 57896044618658097711785492504343953926634992332820282019728792003956564819968)) rfl ?_
        refine J.end ?_
        refine X.then ?_
        refine T.seq ?_
        refine T.draw [] [(0, .q), (1, .q), (2, .q), (3, .q), (4, .q), (5, .q), (6, .g), (7, .g), (8, .q), (9, .q), (10, .q), (11, .q), (12, .q), (13, .q), (14, .g), (15, .g), (16, .g), (17, .g), (18, .g), (19, .q), (20, .g), (21, .g), (22, .q), (23, .g), (24, .g)] (by kernel_rfl) (by kernel_rfl) ?_ (by repeat (first | exact Sub.nil _ | refine Sub.cons (by first | rfl | (rw [dgs_zero]; rfl) | (rw [List.drop_length]; rfl) | (simp; done) | (congr 2; omega) | (congr 3; omega)) ?_))
        refine J.loadN (k := .q) trivial 3 rfl rfl agg24 (wc x0) rfl rfl rfl ?_
        refine J.loadN (k := .q) trivial 4 rfl rfl agg24 (wc x1) rfl rfl rfl ?_
        refine J.call0 (k := .q) trivial fok38 rfl rfl (fun w hw => We.SLt w _ _) ?_
        refine J.loadN (k := .q) trivial 8 rfl rfl agg24 (wc (x0 ^^^ 57896044618658097711785492504343953926634992332820282019728792003956564819968)) rfl rfl rfl ?_
        refine J.loadN (k := .q) trivial 9 rfl rfl agg24 (wc (x1 ^^^ 57896044618658097711785492504343953926634992332820282019728792003956564819968)) rfl rfl rfl ?_
        refine J.call0 (k := .q) trivial fok54 rfl rfl (fun w hw => Wa.Lt w _ _) ?_
        refine J.eqB Tryd.underlying4 rfl rfl rfl (by exact eqB_same (by exact slt_xor x0 x1)) ?_
        refine J.move rfl rfl ?_
        refine J.yes rfl rfl ?_
        refine J.loadN (k := .q) trivial 3 rfl rfl agg24 (wc x0) rfl rfl rfl ?_
        refine J.yes rfl rfl ?_
        refine J.loadN (k := .q) trivial 4 rfl rfl agg24 (wc x1) rfl rfl rfl ?_
        refine J.yes rfl rfl ?_
        refine J.call0 (k := .q) trivial fok40 rfl rfl (fun w hw => We.SGt w _ _) ?_
        refine J.yes rfl rfl ?_
        refine J.loadN (k := .q) trivial 9 rfl rfl agg24 (wc (x1 ^^^ 57896044618658097711785492504343953926634992332820282019728792003956564819968)) rfl rfl rfl ?_
        refine J.yes rfl rfl ?_
        refine J.loadN (k := .q) trivial 8 rfl rfl agg24 (wc (x0 ^^^ 57896044618658097711785492504343953926634992332820282019728792003956564819968)) rfl rfl rfl ?_
        refine J.yes rfl rfl ?_
        refine J.call0 (k := .q) trivial fok54 rfl rfl (fun w hw => Wa.Lt w _ _) ?_
        refine J.yes rfl rfl ?_
        refine J.eqB Tryd.underlying4 rfl rfl rfl (by exact eqB_same (by exact slt_xor x1 x0)) ?_
        refine J.pick_t rfl rfl rfl ?_
        refine J.move rfl rfl ?_
        refine J.yes rfl rfl ?_
        refine J.build rfl rfl (W 5) (fun w => by kernel_rfl) ?_
        refine J.yes rfl rfl ?_
        refine J.build rfl rfl (W 18446744073709551616) (fun w => by kernel_rfl) ?_
        refine J.yes rfl rfl ?_
        refine J.call0 (k := .q) trivial fok54 rfl rfl (fun w hw => Wa.Lt w _ _) ?_
        refine J.as 115 (.bool true) rfl (by rw [decide_eq_true (by decide)]) ?_
        refine J.pick_t rfl rfl rfl ?_
        refine J.move rfl rfl ?_
        refine J.yes rfl rfl ?_
        refine J.call0 (k := .q) trivial fok33 rfl rfl (fun w hw => Wk.awake w) ?_
        refine J.pick_t rfl rfl rfl ?_
        refine J.assign rfl rfl ?_
        refine J.end ?_
        refine X.then ?_
        refine T.ret ?_
        exact X.ret1 rfl (RV.tmp rfl) (fun w' hw' => ⟨rfl, hw'.sub (Sub.nil _)⟩)
  · skip
    refine J.no rfl rfl rfl rfl ?_
    refine J.no rfl rfl rfl rfl ?_
    refine J.no rfl rfl rfl rfl ?_
    refine J.pick_f rfl rfl rfl ?_
    refine J.move rfl rfl ?_
    refine J.no rfl rfl rfl rfl ?_
    refine J.no rfl rfl rfl rfl ?_
    refine J.no rfl rfl rfl rfl ?_
    refine J.no rfl rfl rfl rfl ?_
    refine J.pick_f rfl rfl rfl ?_
    refine J.move rfl rfl ?_
    refine J.yes rfl rfl ?_
    refine J.loadN (k := .l) trivial 3 rfl rfl agg24 (wc x0) rfl rfl rfl ?_
    refine J.yes rfl rfl ?_
    refine J.build rfl rfl (W 0) (fun w => by kernel_rfl) ?_
    refine J.yes rfl rfl ?_
    refine J.call0 (k := .l) trivial fok54 rfl rfl (fun w hw => Wa.Lt w _ _) ?_
    refine J.as 77 (.bool false) rfl (by rw [decide_eq_false (by omega)]) ?_
    refine J.pick_f rfl rfl rfl ?_
    refine J.end ?_
    refine X.then ?_
    refine T.cond_false rfl ?_
    refine T.skip ?_
    refine X.then ?_
    refine T.seq ?_
    refine T.seq ?_
    refine T.draw [] [(0, .q), (1, .q), (2, .g), (3, .g), (4, .q), (5, .q), (6, .q), (7, .q), (8, .q), (9, .g), (10, .g)] (by kernel_rfl) (by kernel_rfl) ?_ (by repeat (first | exact Sub.nil _ | refine Sub.cons (by first | rfl | (rw [dgs_zero]; rfl) | (rw [List.drop_length]; rfl) | (simp; done) | (congr 2; omega) | (congr 3; omega)) ?_))
    refine J.loadN (k := .q) trivial 3 rfl rfl agg24 (wc x0) rfl rfl rfl ?_
    refine J.call0 (k := .q) trivial fok53 rfl rfl (fun w hw => Wk.most w) ?_
    refine J.neqW eqw24 rfl rfl rfl ?_
    refine J.move rfl rfl ?_
    refine J.split 82 rfl (fun h5 => ?_) (fun h5 => ?_)
    · skip
      refine J.yes rfl rfl ?_
      refine J.loadN (k := .q) trivial 3 rfl rfl agg24 (wc x0) rfl rfl rfl ?_
      refine J.yes rfl rfl ?_
      refine J.loadN (k := .q) trivial 3 rfl rfl agg24 (wc x0) rfl rfl rfl ?_
      refine J.yes rfl rfl ?_
      refine J.call0 (k := .q) trivial fok52 rfl rfl (fun w hw => Wk.one w) ?_
      refine J.yes rfl rfl ?_
      refine J.call0 (k := .q) trivial fok23 rfl rfl (fun w hw => Wb.Add w _ _) ?_
      refine J.yes rfl rfl ?_
      refine J.call0 (k := .q) trivial fok54 rfl rfl (fun w hw => Wa.Lt w _ _) ?_
      refine J.as 87 (.bool true) rfl (by rw [decide_eq_true (by omega)]) ?_
      refine J.yes rfl rfl ?_
      refine J.not rfl rfl rfl ?_
      refine J.pick_t rfl rfl rfl ?_
      refine J.end ?_
      refine X.then ?_
      refine T.cond_false rfl ?_
      refine T.skip ?_
      refine X.then ?_
      refine T.seq ?_
      refine T.draw [] [(0, .q), (1, .q), (2, .q), (3, .a 8), (4, .l)] (by kernel_rfl) (by kernel_rfl) ?_ (by repeat (first | exact Sub.nil _ | refine Sub.cons (by first | rfl | (rw [dgs_zero]; rfl) | (rw [List.drop_length]; rfl) | (simp; done) | (congr 2; omega) | (congr 3; omega)) ?_))
      refine J.loadN (k := .q) trivial 3 rfl rfl agg24 (wc x0) rfl rfl rfl ?_
      refine J.call0 (k := .q) trivial fok85 rfl rfl (fun w hw => Wk.top w) ?_
      refine J.call0 (k := .q) trivial fok66 rfl rfl (fun w hw => We.Xor w _ _) ?_
      refine J.allocA 8 rfl rfl zero24 [.int .u64 0, .int .u64 0, .int .u64 0, .int .u64 0] rfl rfl (fun g8 hg8 => ?_)
      refine J.store 8 rfl rfl rfl rfl (wc (x0 ^^^ 57896044618658097711785492504343953926634992332820282019728792003956564819968)) rfl sz24 (by first | decide | exact Nat.le_refl _ | exact Nat.le_of_ble_eq_true rfl | (simp [rowN]; done) | (simp [rowN]; omega)) (by first | exact rowN_one _ _ | (simp; done) | (intro u hu; simp at hu; subst hu; rfl) | (intro u hu; simp at hu; rcases hu with rfl | rfl <;> rfl)) (by first | decide | exact Nat.zero_lt_succ _ | simp) trivial (wc (x0 ^^^ 57896044618658097711785492504343953926634992332820282019728792003956564819968)) rfl ?_
      refine J.end ?_
      refine X.then ?_
      refine T.seq ?_
      refine T.draw [] [(0, .q), (1, .q), (2, .q), (3, .a 9), (4, .l)] (by kernel_rfl) (by kernel_rfl) ?_ (by repeat (first | exact Sub.nil _ | refine Sub.cons (by first | rfl | (rw [dgs_zero]; rfl) | (rw [List.drop_length]; rfl) | (simp; done) | (congr 2; omega) | (congr 3; omega)) ?_))
      refine J.loadN (k := .q) trivial 4 rfl rfl agg24 (wc x1) rfl rfl rfl ?_
      refine J.call0 (k := .q) trivial fok85 rfl rfl (fun w hw => Wk.top w) ?_
      refine J.call0 (k := .q) trivial fok66 rfl rfl (fun w hw => We.Xor w _ _) ?_
      refine J.allocA 9 rfl rfl zero24 [.int .u64 0, .int .u64 0, .int .u64 0, .int .u64 0] rfl rfl (fun g9 hg9 => ?_)
      refine J.store 9 rfl rfl rfl rfl (wc (x1 ^^^ 57896044618658097711785492504343953926634992332820282019728792003956564819968)) rfl sz24 (by first | decide | exact Nat.le_refl _ | exact Nat.le_of_ble_eq_true rfl | (simp [rowN]; done) | (simp [rowN]; omega)) (by first | exact rowN_one _ _ | (simp; done) | (intro u hu; simp at hu; subst hu; rfl) | (intro u hu; simp at hu; rcases hu with rfl | rfl <;> rfl)) (by first | decide | exact Nat.zero_lt_succ _ | simp) trivial (wc (x1 ^^^ 57896044618658097711785492504343953926634992332820282019728792003956564819968)) rfl ?_
      refine J.end ?_
      refine X.then ?_
      refine T.seq ?_
      refine T.draw [] [(0, .q), (1, .q), (2, .q), (3, .q), (4, .q), (5, .q), (6, .g), (7, .g), (8, .q), (9, .q), (10, .q), (11, .q), (12, .q), (13, .q), (14, .g), (15, .g), (16, .g), (17, .g), (18, .g), (19, .q), (20, .g), (21, .g), (22, .q), (23, .g), (24, .g)] (by kernel_rfl) (by kernel_rfl) ?_ (by repeat (first | exact Sub.nil _ | refine Sub.cons (by first | rfl | (rw [dgs_zero]; rfl) | (rw [List.drop_length]; rfl) | (simp; done) | (congr 2; omega) | (congr 3; omega)) ?_))
      refine J.loadN (k := .q) trivial 3 rfl rfl agg24 (wc x0) rfl rfl rfl ?_
      refine J.loadN (k := .q) trivial 4 rfl rfl agg24 (wc x1) rfl rfl rfl ?_
      refine J.call0 (k := .q) trivial fok38 rfl rfl (fun w hw => We.SLt w _ _) ?_
      refine J.loadN (k := .q) trivial 8 rfl rfl agg24 (wc (x0 ^^^ 57896044618658097711785492504343953926634992332820282019728792003956564819968)) rfl rfl rfl ?_
      refine J.loadN (k := .q) trivial 9 rfl rfl agg24 (wc (x1 ^^^ 57896044618658097711785492504343953926634992332820282019728792003956564819968)) rfl rfl rfl ?_
      refine J.call0 (k := .q) trivial fok54 rfl rfl (fun w hw => Wa.Lt w _ _) ?_
      refine J.eqB Tryd.underlying4 rfl rfl rfl (by exact eqB_same (by exact slt_xor x0 x1)) ?_
      refine J.move rfl rfl ?_
      refine J.yes rfl rfl ?_
      refine J.loadN (k := .q) trivial 3 rfl rfl agg24 (wc x0) rfl rfl rfl ?_
      refine J.yes rfl rfl ?_
      refine J.loadN (k := .q) trivial 4 rfl rfl agg24 (wc x1) rfl rfl rfl ?_
      refine J.yes rfl rfl ?_
      refine J.call0 (k := .q) trivial fok40 rfl rfl (fun w hw => We.SGt w _ _) ?_
      refine J.yes rfl rfl ?_
      refine J.loadN (k := .q) trivial 9 rfl rfl agg24 (wc (x1 ^^^ 57896044618658097711785492504343953926634992332820282019728792003956564819968)) rfl rfl rfl ?_
      refine J.yes rfl rfl ?_
      refine J.loadN (k := .q) trivial 8 rfl rfl agg24 (wc (x0 ^^^ 57896044618658097711785492504343953926634992332820282019728792003956564819968)) rfl rfl rfl ?_
      refine J.yes rfl rfl ?_
      refine J.call0 (k := .q) trivial fok54 rfl rfl (fun w hw => Wa.Lt w _ _) ?_
      refine J.yes rfl rfl ?_
      refine J.eqB Tryd.underlying4 rfl rfl rfl (by exact eqB_same (by exact slt_xor x1 x0)) ?_
      refine J.pick_t rfl rfl rfl ?_
      refine J.move rfl rfl ?_
      refine J.yes rfl rfl ?_
      refine J.build rfl rfl (W 5) (fun w => by kernel_rfl) ?_
      refine J.yes rfl rfl ?_
      refine J.build rfl rfl (W 18446744073709551616) (fun w => by kernel_rfl) ?_
      refine J.yes rfl rfl ?_
      refine J.call0 (k := .q) trivial fok54 rfl rfl (fun w hw => Wa.Lt w _ _) ?_
      refine J.as 115 (.bool true) rfl (by rw [decide_eq_true (by decide)]) ?_
      refine J.pick_t rfl rfl rfl ?_
      refine J.move rfl rfl ?_
      refine J.yes rfl rfl ?_
      refine J.call0 (k := .q) trivial fok33 rfl rfl (fun w hw => Wk.awake w) ?_
      refine J.pick_t rfl rfl rfl ?_
      refine J.assign rfl rfl ?_
      refine J.end ?_
      refine X.then ?_
      refine T.ret ?_
      exact X.ret1 rfl (RV.tmp rfl) (fun w' hw' => ⟨rfl, hw'.sub (Sub.nil _)⟩)
    · skip
      refine J.no rfl rfl rfl rfl ?_
      refine J.no rfl rfl rfl rfl ?_
      refine J.no rfl rfl rfl rfl ?_
      refine J.no rfl rfl rfl rfl ?_
      refine J.no rfl rfl rfl rfl ?_
      refine J.no rfl rfl rfl rfl ?_
      refine J.pick_f rfl rfl rfl ?_
      refine J.end ?_
      refine X.then ?_
      refine T.cond_false rfl ?_
      refine T.skip ?_
      refine X.then ?_
      refine T.seq ?_
      refine T.draw [] [(0, .q), (1, .q), (2, .q), (3, .a 8), (4, .l)] (by kernel_rfl) (by kernel_rfl) ?_ (by repeat (first | exact Sub.nil _ | refine Sub.cons (by first | rfl | (rw [dgs_zero]; rfl) | (rw [List.drop_length]; rfl) | (simp; done) | (congr 2; omega) | (congr 3; omega)) ?_))
      refine J.loadN (k := .q) trivial 3 rfl rfl agg24 (wc x0) rfl rfl rfl ?_
      refine J.call0 (k := .q) trivial fok85 rfl rfl (fun w hw => Wk.top w) ?_
      refine J.call0 (k := .q) trivial fok66 rfl rfl (fun w hw => We.Xor w _ _) ?_
      refine J.allocA 8 rfl rfl zero24 [.int .u64 0, .int .u64 0, .int .u64 0, .int .u64 0] rfl rfl (fun g8 hg8 => ?_)
      refine J.store 8 rfl rfl rfl rfl (wc (x0 ^^^ 57896044618658097711785492504343953926634992332820282019728792003956564819968)) rfl sz24 (by first | decide | exact Nat.le_refl _ | exact Nat.le_of_ble_eq_true rfl | (simp [rowN]; done) | (simp [rowN]; omega)) (by first | exact rowN_one _ _ | (simp; done) | (intro u hu; simp at hu; subst hu; rfl) | (intro u hu; simp at hu; rcases hu with rfl | rfl <;> rfl)) (by first | decide | exact Nat.zero_lt_succ _ | simp) trivial (wc (x0 ^^^ 57896044618658097711785492504343953926634992332820282019728792003956564819968)) rfl ?_
      refine J.end ?_
      refine X.then ?_
      refine T.seq ?_
      refine T.draw [] [(0, .q), (1, .q), (2, .q), (3, .a 9), (4, .l)] (by kernel_rfl) (by kernel_rfl) ?_ (by repeat (first | exact Sub.nil _ | refine Sub.cons (by first | rfl | (rw [dgs_zero]; rfl) | (rw [List.drop_length]; rfl) | (simp; done) | (congr 2; omega) | (congr 3; omega)) ?_))
      refine J.loadN (k := .q) trivial 4 rfl rfl agg24 (wc x1) rfl rfl rfl ?_
      refine J.call0 (k := .q) trivial fok85 rfl rfl (fun w hw => Wk.top w) ?_
      refine J.call0 (k := .q) trivial fok66 rfl rfl (fun w hw => We.Xor w _ _) ?_
      refine J.allocA 9 rfl rfl zero24 [.int .u64 0, .int .u64 0, .int .u64 0, .int .u64 0] rfl rfl (fun g9 hg9 => ?_)
      refine J.store 9 rfl rfl rfl rfl (wc (x1 ^^^ 57896044618658097711785492504343953926634992332820282019728792003956564819968)) rfl sz24 (by first | decide | exact Nat.le_refl _ | exact Nat.le_of_ble_eq_true rfl | (simp [rowN]; done) | (simp [rowN]; omega)) (by first | exact rowN_one _ _ | (simp; done) | (intro u hu; simp at hu; subst hu; rfl) | (intro u hu; simp at hu; rcases hu with rfl | rfl <;> rfl)) (by first | decide | exact Nat.zero_lt_succ _ | simp) trivial (wc (x1 ^^^ 57896044618658097711785492504343953926634992332820282019728792003956564819968)) rfl ?_
      refine J.end ?_
      refine X.then ?_
      refine T.seq ?_
      refine T.draw [] [(0, .q), (1, .q), (2, .q), (3, .q), (4, .q), (5, .q), (6, .g), (7, .g), (8, .q), (9, .q), (10, .q), (11, .q), (12, .q), (13, .q), (14, .g), (15, .g), (16, .g), (17, .g), (18, .g), (19, .q), (20, .g), (21, .g), (22, .q), (23, .g), (24, .g)] (by kernel_rfl) (by kernel_rfl) ?_ (by repeat (first | exact Sub.nil _ | refine Sub.cons (by first | rfl | (rw [dgs_zero]; rfl) | (rw [List.drop_length]; rfl) | (simp; done) | (congr 2; omega) | (congr 3; omega)) ?_))
      refine J.loadN (k := .q) trivial 3 rfl rfl agg24 (wc x0) rfl rfl rfl ?_
      refine J.loadN (k := .q) trivial 4 rfl rfl agg24 (wc x1) rfl rfl rfl ?_
      refine J.call0 (k := .q) trivial fok38 rfl rfl (fun w hw => We.SLt w _ _) ?_
      refine J.loadN (k := .q) trivial 8 rfl rfl agg24 (wc (x0 ^^^ 57896044618658097711785492504343953926634992332820282019728792003956564819968)) rfl rfl rfl ?_
      refine J.loadN (k := .q) trivial 9 rfl rfl agg24 (wc (x1 ^^^ 57896044618658097711785492504343953926634992332820282019728792003956564819968)) rfl rfl rfl ?_
      refine J.call0 (k := .q) trivial fok54 rfl rfl (fun w hw => Wa.Lt w _ _) ?_
      refine J.eqB Tryd.underlying4 rfl rfl rfl (by exact eqB_same (by exact slt_xor x0 x1)) ?_
      refine J.move rfl rfl ?_
      refine J.yes rfl rfl ?_
      refine J.loadN (k := .q) trivial 3 rfl rfl agg24 (wc x0) rfl rfl rfl ?_
      refine J.yes rfl rfl ?_
      refine J.loadN (k := .q) trivial 4 rfl rfl agg24 (wc x1) rfl rfl rfl ?_
      refine J.yes rfl rfl ?_
      refine J.call0 (k := .q) trivial fok40 rfl rfl (fun w hw => We.SGt w _ _) ?_
      refine J.yes rfl rfl ?_
      refine J.loadN (k := .q) trivial 9 rfl rfl agg24 (wc (x1 ^^^ 57896044618658097711785492504343953926634992332820282019728792003956564819968)) rfl rfl rfl ?_
      refine J.yes rfl rfl ?_
      refine J.loadN (k := .q) trivial 8 rfl rfl agg24 (wc (x0 ^^^ 57896044618658097711785492504343953926634992332820282019728792003956564819968)) rfl rfl rfl ?_
      refine J.yes rfl rfl ?_
      refine J.call0 (k := .q) trivial fok54 rfl rfl (fun w hw => Wa.Lt w _ _) ?_
      refine J.yes rfl rfl ?_
      refine J.eqB Tryd.underlying4 rfl rfl rfl (by exact eqB_same (by exact slt_xor x1 x0)) ?_
      refine J.pick_t rfl rfl rfl ?_
      refine J.move rfl rfl ?_
      refine J.yes rfl rfl ?_
      refine J.build rfl rfl (W 5) (fun w => by kernel_rfl) ?_
      refine J.yes rfl rfl ?_
      refine J.build rfl rfl (W 18446744073709551616) (fun w => by kernel_rfl) ?_
      refine J.yes rfl rfl ?_
      refine J.call0 (k := .q) trivial fok54 rfl rfl (fun w hw => Wa.Lt w _ _) ?_
      refine J.as 115 (.bool true) rfl (by rw [decide_eq_true (by decide)]) ?_
      refine J.pick_t rfl rfl rfl ?_
      refine J.move rfl rfl ?_
      refine J.yes rfl rfl ?_
      refine J.call0 (k := .q) trivial fok33 rfl rfl (fun w hw => Wk.awake w) ?_
      refine J.pick_t rfl rfl rfl ?_
      refine J.assign rfl rfl ?_
      refine J.end ?_
      refine X.then ?_
      refine T.ret ?_
      exact X.ret1 rfl (RV.tmp rfl) (fun w' hw' => ⟨rfl, hw'.sub (Sub.nil _)⟩)
end Go.Proofs.YtegociefcfcihaaDoor.Lo
