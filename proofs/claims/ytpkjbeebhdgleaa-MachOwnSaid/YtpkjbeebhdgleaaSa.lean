/-
  Walks, printed by gen.py: what each function hands back, said of numbers.
  Conditions: those that each theorem bears.
-/
import Derived.Test.YtpkjbeebhdgleaaChecked
import Derived.Test.YtpkjbeebhdgleaaFi
set_option linter.unusedVariables false
set_option maxRecDepth 20000
namespace Go.Proofs.Ytpkjbeebhdgleaa.Sa
open Go Go.Fw

theorem sz3 : SizeT Try.prog 3 1 := (by unfold SizeT; kernel_rfl)
theorem fld89_1 : FldT Try.prog 89 1 3 4096 0 := ⟨by kernel_rfl, sz3⟩
theorem one3 : OneT Try.prog 3 := ⟨⟨_, Try.underlying3, rfl⟩, by kernel_rfl⟩
theorem zero25 : ZeroT Try.prog 25 (.agg ([.int .u64 0, .int .u64 0, .int .u64 0, .int .u64 0]).toArray) := (by unfold ZeroT; kernel_rfl)
theorem sz58 : SizeT Try.prog 58 4096 := (by unfold SizeT; kernel_rfl)
theorem fld89_0 : FldT Try.prog 89 0 58 0 4095 := ⟨by kernel_rfl, sz58⟩
theorem sz25 : SizeT Try.prog 25 4 := (by unfold SizeT; kernel_rfl)
theorem arr58 : ArrT Try.prog 58 1024 25 4 := ⟨Try.underlying58, sz25⟩
theorem agg25 : AggT Try.prog 25 4 := ⟨⟨_, Try.underlying25, rfl⟩, by kernel_rfl⟩
theorem fok33 : FnOk Try.prog 33 := FnOk.mk' Try.func33 (by kernel_rfl) rfl
theorem fok31 : FnOk Try.prog 31 := FnOk.mk' Try.func31 (by kernel_rfl) rfl
theorem fok32 : FnOk Try.prog 32 := FnOk.mk' Try.func32 (by kernel_rfl) rfl
theorem fok21 : FnOk Try.prog 21 := FnOk.mk' Try.func21 (by kernel_rfl) rfl
theorem fok19 : FnOk Try.prog 19 := FnOk.mk' Try.func19 (by kernel_rfl) rfl
theorem fok28 : FnOk Try.prog 28 := FnOk.mk' Try.func28 (by kernel_rfl) rfl
theorem el25 : ElT Try.prog 25 4 32 (.agg ([.int .u64 0, .int .u64 0, .int .u64 0, .int .u64 0]).toArray) := ⟨by kernel_rfl, rfl, by decide, by decide⟩
theorem sl32 : SlT Try.prog 32 25 4 := ⟨Try.underlying32, sz25⟩

set_option maxHeartbeats 4000000 in
theorem NewStack (w : World) :
    Calls Try.prog 18 [].toArray w fun e w' => NewPost w 89 (stkM zstk 0) e w' := by
  refine calls_of_T [] 3 [] Try.func18 rfl Try.ntmps18 (by simp) (WS.refl _ _) ?_
  refine T.seq ?_
  refine T.text [.l] rfl ?_
  refine J.assign rfl rfl ?_
  refine J.end ?_
  refine X.then ?_
  refine T.seq ?_
  refine T.text [.l, .l, .l] rfl ?_
  refine J.build rfl rfl (.agg (stkM zstk 0).toArray) (fun w => by kernel_rfl) ?_
  refine J.box 2 rfl rfl (stkM zstk 0) rfl rfl (fun g2 hg2 => ?_)
  refine J.assign rfl rfl ?_
  refine J.end ?_
  refine X.then ?_
  refine T.ret ?_
  exact X.ret1 rfl (RV.tmp rfl) (fun w' hw' => ⟨g2, hg2, rfl, hw'.only 2 0 rfl⟩)

theorem Len (w : World) (g : Nat) (S : List Nat) (n : Int) (hS : S.length = 1024) (hn : -4611686018427387904 ≤ n ∧ n ≤ 4611686018427387904) (hcS : Cs w (some ⟨g, 0, none⟩) (stkM S n)) :
    Calls Try.prog 20 [.pointer (some ⟨g, 0, none⟩)].toArray w fun e w' => e = .returned (.int .i64 n) ∧ WS w [] [] w' := by
  refine calls_of_T [] 7 [] Try.func20 rfl Try.ntmps20 (by simp) (WS.refl _ _) ?_
  refine T.seq ?_
  refine T.text [.l] rfl ?_
  refine J.assign rfl rfl ?_
  refine J.end ?_
  refine X.then ?_
  refine T.seq ?_
  refine T.text [.l, .l, .l, .l, .l] rfl ?_
  refine J.move rfl rfl ?_
  refine J.nilCheck rfl rfl ?_
  refine J.fieldAddr fld89_1 rfl rfl ?_
  refine J.loadB1 (k := .l) trivial hcS (off_nil _) rfl one3 (stkM_n hS) rfl ?_
  refine J.assign rfl rfl ?_
  refine J.end ?_
  refine X.then ?_
  refine T.ret ?_
  exact X.ret1 rfl (RV.tmp rfl) (fun w' hw' => ⟨rfl, hw'.sub (Sub.nil _)⟩)

theorem Peek (w : World) (g : Nat) (S : List Nat) (n : Int) (hS : S.length = 1024) (hn : -4611686018427387904 ≤ n ∧ n ≤ 4611686018427387904) (hcS : Cs w (some ⟨g, 0, none⟩) (stkM S n)) (m : Int) :
    Calls Try.prog 33 [.pointer (some ⟨g, 0, none⟩), .int .i64 m].toArray w fun e w' => e = .returned (W (S.getD (ix (n - m)) 0)) ∧ WS w [] [] w' := by
  refine calls_of_T [] 17 [] Try.func33 rfl Try.ntmps33 (by simp) (WS.refl _ _) ?_
  refine T.seq ?_
  refine T.text [.l] rfl ?_
  refine J.alloc 4 rfl zero25 [.int .u64 0, .int .u64 0, .int .u64 0, .int .u64 0] rfl rfl (fun g4 hg4 => ?_)
  refine J.end ?_
  refine X.then ?_
  refine T.seq ?_
  refine T.draw [] [(0, .g), (1, .g), (2, .g), (3, .g), (4, .q), (5, .g), (6, .g), (7, .g), (8, .g), (9, .g), (10, .g), (11, .q), (12, .l)] (by kernel_rfl) (by kernel_rfl) ?_ (by repeat (first | exact Sub.nil _ | refine Sub.cons (by first | rfl | (rw [dgs_zero]; rfl) | (rw [List.drop_length]; rfl) | (simp; done) | (congr 2; omega) | (congr 3; omega)) ?_))
  refine J.move rfl rfl ?_
  refine J.move rfl rfl ?_
  refine J.nilCheck rfl rfl ?_
  refine J.fieldAddr fld89_1 rfl rfl ?_
  refine J.loadB1 (k := .q) trivial hcS (off_nil _) rfl one3 (stkM_n hS) rfl ?_
  refine J.move rfl rfl ?_
  refine J.sub' rfl rfl rfl rfl ?_
  refine J.band rfl rfl rfl (and1023' _) ?_
  refine J.nilCheck rfl rfl ?_
  refine J.fieldAddr fld89_0 rfl rfl ?_
  refine J.indexArr arr58 rfl rfl (by omega) (by omega) (by first | exact Int.toNat_natCast _ | rfl) rfl ?_
  refine J.loadBW (k := .q) trivial hcS (off_nil _) rfl agg25 (stkM_w hS _) rfl ?_
  refine J.store 4 rfl rfl rfl rfl (wc (S.getD (ix (n - m)) 0)) rfl sz25 (by first | decide | exact Nat.le_refl _ | exact Nat.le_of_ble_eq_true rfl | (simp [rowN]; done) | (simp [rowN]; omega)) (by first | exact rowN_one _ _ | (simp; done) | (intro u hu; simp at hu; subst hu; rfl) | (intro u hu; simp at hu; rcases hu with rfl | rfl <;> rfl)) (by first | decide | exact Nat.zero_lt_succ _ | simp) trivial (wc (S.getD (ix (n - m)) 0)) rfl ?_
  refine J.end ?_
  refine X.then ?_
  refine T.ret ?_
  exact X.ret1 rfl (RV.agg 4 rfl rfl agg25 (wc (S.getD (ix (n - m)) 0)) (by rfl) (by rfl) rfl) (fun w' hw' => ⟨rfl, hw'.sub (Sub.nil _)⟩)

theorem At (w : World) (g : Nat) (S : List Nat) (n : Int) (hS : S.length = 1024) (hn : -4611686018427387904 ≤ n ∧ n ≤ 4611686018427387904) (hcS : Cs w (some ⟨g, 0, none⟩) (stkM S n)) (m : Int) (hm : -9223372036854775808 ≤ m ∧ m ≤ 9223372036854775807) :
    Calls Try.prog 21 [.pointer (some ⟨g, 0, none⟩), .int .i64 m].toArray w fun e w' => e = .returned (.tuple #[W (atX S n m), .int .i64 (atE n m : Int)]) ∧ WS w [] [] w' := by
  refine calls_of_T [] 21 [] Try.func21 rfl Try.ntmps21 (by simp) (WS.refl _ _) ?_
  refine T.seq ?_
  refine T.text [.l, .l] rfl ?_
  refine J.alloc 4 rfl zero25 [.int .u64 0, .int .u64 0, .int .u64 0, .int .u64 0] rfl rfl (fun g4 hg4 => ?_)
  refine J.assign rfl rfl ?_
  refine J.end ?_
  refine X.then ?_
  refine T.seq ?_
  refine T.block ?_
  refine T.seq ?_
  refine T.text [.l, .l, .l] rfl ?_
  refine J.move rfl rfl ?_
  refine J.lss rfl rfl rfl rfl ?_
  refine J.assign rfl rfl ?_
  refine J.end ?_
  refine X.then ?_
  refine T.cond_dec rfl (fun h1 => ?_) (fun h1 => ?_)
  · skip
    refine T.seq ?_
    refine T.text [.l, .l, .l] rfl ?_
    refine J.build rfl rfl (W 0) (fun w => by kernel_rfl) ?_
    refine J.store 4 rfl rfl rfl rfl (wc 0) rfl sz25 (by first | decide | exact Nat.le_refl _ | exact Nat.le_of_ble_eq_true rfl | (simp [rowN]; done) | (simp [rowN]; omega)) (by first | exact rowN_one _ _ | (simp; done) | (intro u hu; simp at hu; subst hu; rfl) | (intro u hu; simp at hu; rcases hu with rfl | rfl <;> rfl)) (by first | decide | exact Nat.zero_lt_succ _ | simp) trivial (wc 0) rfl ?_
    refine J.assign rfl rfl ?_
    refine J.end ?_
    refine X.then ?_
    refine T.ret ?_
    refine X.inBlock_ret (X.then_ret ?_)
    exact X.ret2 rfl (RV.agg 4 rfl rfl agg25 (wc 0) (by rfl) (by rfl) rfl) (RV.tmp rfl) (fun w' hw' => ⟨by have h := at_lo (S := S) (n := n) (m := m) (by omega); rw [h.1, h.2]; rfl, hw'.sub (Sub.nil _)⟩)
  · skip
    refine T.seq ?_
    refine T.text [.l, .l, .l, .l, .l, .l, .l] rfl ?_
    refine J.move rfl rfl ?_
    refine J.move rfl rfl ?_
    refine J.nilCheck rfl rfl ?_
    refine J.fieldAddr fld89_1 rfl rfl ?_
    refine J.loadB1 (k := .l) trivial hcS (off_nil _) rfl one3 (stkM_n hS) rfl ?_
    refine J.gtr rfl rfl rfl rfl ?_
    refine J.assign rfl rfl ?_
    refine J.end ?_
    refine X.then ?_
    refine T.cond_dec rfl (fun h2 => ?_) (fun h2 => ?_)
    · skip
      refine T.seq ?_
      refine T.text [.l, .l, .l] rfl ?_
      refine J.build rfl rfl (W 0) (fun w => by kernel_rfl) ?_
      refine J.store 4 rfl rfl rfl rfl (wc 0) rfl sz25 (by first | decide | exact Nat.le_refl _ | exact Nat.le_of_ble_eq_true rfl | (simp [rowN]; done) | (simp [rowN]; omega)) (by first | exact rowN_one _ _ | (simp; done) | (intro u hu; simp at hu; subst hu; rfl) | (intro u hu; simp at hu; rcases hu with rfl | rfl <;> rfl)) (by first | decide | exact Nat.zero_lt_succ _ | simp) trivial (wc 0) rfl ?_
      refine J.assign rfl rfl ?_
      refine J.end ?_
      refine X.then ?_
      refine T.ret ?_
      refine X.inBlock_ret (X.then_ret ?_)
      exact X.ret2 rfl (RV.agg 4 rfl rfl agg25 (wc 0) (by rfl) (by rfl) rfl) (RV.tmp rfl) (fun w' hw' => ⟨by have h := at_hi (S := S) (n := n) (m := m) (by omega) (by omega); rw [h.1, h.2]; rfl, hw'.sub (Sub.nil _)⟩)
    · skip
      refine T.skip ?_
      refine X.inBlock (X.then ?_)
      refine T.seq ?_
      refine T.text [.l, .l, .l, .l, .l] rfl ?_
      refine J.move rfl rfl ?_
      refine J.move rfl rfl ?_
      refine J.call0 (k := .l) trivial fok33 rfl rfl (fun w hw => Sa.Peek w _ _ _ (by first | assumption | (rw [List.length_set]; assumption) | (simp only [List.length_set, swp_length, pushS_length, dupS_length, swapS_length, exS_length, *]; done)) (by first | assumption | omega) (hcS.ws hw (off_nil _)) _) ?_
      refine J.store 4 rfl rfl rfl rfl (wc (S.getD (ix (n - m)) 0)) rfl sz25 (by first | decide | exact Nat.le_refl _ | exact Nat.le_of_ble_eq_true rfl | (simp [rowN]; done) | (simp [rowN]; omega)) (by first | exact rowN_one _ _ | (simp; done) | (intro u hu; simp at hu; subst hu; rfl) | (intro u hu; simp at hu; rcases hu with rfl | rfl <;> rfl)) (by first | decide | exact Nat.zero_lt_succ _ | simp) trivial (wc (S.getD (ix (n - m)) 0)) rfl ?_
      refine J.assign rfl rfl ?_
      refine J.end ?_
      refine X.then ?_
      refine T.ret ?_
      exact X.ret2 rfl (RV.agg 4 rfl rfl agg25 (wc (S.getD (ix (n - m)) 0)) (by rfl) (by rfl) rfl) (RV.tmp rfl) (fun w' hw' => ⟨by have h := at_ok (S := S) (n := n) (m := m) (by omega) (by omega); rw [h.1, h.2]; rfl, hw'.sub (Sub.nil _)⟩)

theorem Put (w : World) (g : Nat) (S : List Nat) (n : Int) (hS : S.length = 1024) (hn : -4611686018427387904 ≤ n ∧ n ≤ 4611686018427387904) (hat : Ent.At w ⟨some g, 89, stkM S n⟩) (x : Nat) :
    Calls Try.prog 31 [.pointer (some ⟨g, 0, none⟩), W x].toArray w fun e w' => e = .returned (.tuple #[]) ∧ WS w [g] [(0, ⟨some g, 89, stkM (S.set (ix n) x) (n + 1)⟩)] w' := by
  refine calls_of_T [g] 21 [(0, ⟨some g, 89, stkM S n⟩)] Try.func31 rfl Try.ntmps31 (by simp) (WS.one hat) ?_
  refine T.seq ?_
  refine T.text [.l] rfl ?_
  refine J.box 3 rfl rfl (wc x) rfl rfl (fun g3 hg3 => ?_)
  refine J.end ?_
  refine X.then ?_
  refine T.seq ?_
  refine T.draw [] [(0, .g), (1, .g), (2, .g), (3, .g), (4, .q), (5, .g), (6, .q), (7, .g), (8, .g), (9, .g), (10, .l)] (by kernel_rfl) (by kernel_rfl) ?_ (by repeat (first | exact Sub.nil _ | refine Sub.cons (by first | rfl | (rw [dgs_zero]; rfl) | (rw [List.drop_length]; rfl) | (simp; done) | (congr 2; omega) | (congr 3; omega)) ?_))
  refine J.move rfl rfl ?_
  refine J.move rfl rfl ?_
  refine J.nilCheck rfl rfl ?_
  refine J.fieldAddr fld89_1 rfl rfl ?_
  refine J.load1 (k := .q) trivial 0 rfl rfl one3 (stkM_n hS) rfl ?_
  refine J.band rfl rfl rfl (and1023 _) ?_
  refine J.loadN (k := .q) trivial 3 rfl rfl agg25 (wc x) rfl rfl rfl ?_
  refine J.nilCheck rfl rfl ?_
  refine J.fieldAddr fld89_0 rfl rfl ?_
  refine J.indexArr arr58 rfl rfl (by omega) (by omega) (by first | exact Int.toNat_natCast _ | rfl) rfl ?_
  refine J.store 0 rfl rfl rfl rfl (wc x) rfl sz25 (by rw [stkM_len hS]; exact stk_fit 0 (n) (by omega)) (rowN_one _ _) (by show 0 < 4; omega) trivial (stkM (S.set (ix n) x) n) (stkM_put hS _ _) ?_
  refine J.end ?_
  refine X.then ?_
  refine T.text [.l, .l, .l, .l, .l, .l, .l, .l] rfl ?_
  refine J.move rfl rfl ?_
  refine J.nilCheck rfl rfl ?_
  refine J.fieldAddr fld89_1 rfl rfl ?_
  refine J.load1 (k := .l) trivial 0 rfl rfl one3 (stkM_n (by rw [List.length_set]; exact hS)) rfl ?_
  refine J.add rfl rfl rfl (by first | exact add_nat _ 1 (by omega) | exact i64_ok _ (by omega) | exact rfl) ?_
  refine J.nilCheck rfl rfl ?_
  refine J.fieldAddr fld89_1 rfl rfl ?_
  refine J.store 0 rfl rfl rfl rfl [.int .i64 (n + 1)] rfl sz3 (by rw [stkM_len (by rw [List.length_set]; exact hS)]; show _ + 1 ≤ _; omega) (by first | exact rowN_one _ _ | (simp; done) | (intro u hu; simp at hu; subst hu; rfl) | (intro u hu; simp at hu; rcases hu with rfl | rfl <;> rfl)) (by first | decide | exact Nat.zero_lt_succ _ | simp) trivial (stkM (S.set (ix n) x) (n + 1)) (stkM_putn (by rw [List.length_set]; exact hS)) ?_
  refine J.end ?_
  exact X.end0 rfl (fun w' hw' => ⟨rfl, hw'.only 0 0 rfl⟩)

theorem Take (w : World) (g : Nat) (S : List Nat) (n : Int) (hS : S.length = 1024) (hn : -4611686018427387904 ≤ n ∧ n ≤ 4611686018427387904) (hat : Ent.At w ⟨some g, 89, stkM S n⟩) :
    Calls Try.prog 32 [.pointer (some ⟨g, 0, none⟩)].toArray w fun e w' => e = .returned (W (S.getD (ix (n - 1)) 0)) ∧ WS w [g] [(0, ⟨some g, 89, stkM (S) (n - 1)⟩)] w' := by
  refine calls_of_T [g] 20 [(0, ⟨some g, 89, stkM S n⟩)] Try.func32 rfl Try.ntmps32 (by simp) (WS.one hat) ?_
  refine T.seq ?_
  refine T.text [.l] rfl ?_
  refine J.alloc 2 rfl zero25 [.int .u64 0, .int .u64 0, .int .u64 0, .int .u64 0] rfl rfl (fun g2 hg2 => ?_)
  refine J.end ?_
  refine X.then ?_
  refine T.seq ?_
  refine T.text [.l, .l, .l, .l, .l, .l, .l, .l] rfl ?_
  refine J.move rfl rfl ?_
  refine J.nilCheck rfl rfl ?_
  refine J.fieldAddr fld89_1 rfl rfl ?_
  refine J.load1 (k := .l) trivial 0 rfl rfl one3 (stkM_n hS) rfl ?_
  refine J.sub' rfl rfl rfl (by first | exact sub_nat _ 1 (by omega) | exact i64_ok _ (by omega) | exact rfl) ?_
  refine J.nilCheck rfl rfl ?_
  refine J.fieldAddr fld89_1 rfl rfl ?_
  refine J.store 0 rfl rfl rfl rfl [.int .i64 (n - 1)] rfl sz3 (by rw [stkM_len hS]; show _ + 1 ≤ _; omega) (by first | exact rowN_one _ _ | (simp; done) | (intro u hu; simp at hu; subst hu; rfl) | (intro u hu; simp at hu; rcases hu with rfl | rfl <;> rfl)) (by first | decide | exact Nat.zero_lt_succ _ | simp) trivial (stkM S (n - 1)) (stkM_putn hS) ?_
  refine J.end ?_
  refine X.then ?_
  refine T.seq ?_
  refine T.draw [] [(0, .g), (1, .g), (2, .g), (3, .g), (4, .q), (5, .g), (6, .g), (7, .g), (8, .g), (9, .q), (10, .l)] (by kernel_rfl) (by kernel_rfl) ?_ (by repeat (first | exact Sub.nil _ | refine Sub.cons (by first | rfl | (rw [dgs_zero]; rfl) | (rw [List.drop_length]; rfl) | (simp; done) | (congr 2; omega) | (congr 3; omega)) ?_))
  refine J.move rfl rfl ?_
  refine J.move rfl rfl ?_
  refine J.nilCheck rfl rfl ?_
  refine J.fieldAddr fld89_1 rfl rfl ?_
  refine J.load1 (k := .q) trivial 0 rfl rfl one3 (stkM_n hS) rfl ?_
  refine J.band rfl rfl rfl (and1023 _) ?_
  refine J.nilCheck rfl rfl ?_
  refine J.fieldAddr fld89_0 rfl rfl ?_
  refine J.indexArr arr58 rfl rfl (by omega) (by omega) (by first | exact Int.toNat_natCast _ | rfl) rfl ?_
  refine J.loadW (k := .q) trivial 0 rfl rfl agg25 (stkM_w hS _) rfl ?_
  refine J.store 2 rfl rfl rfl rfl (wc (S.getD (ix (n - 1)) 0)) rfl sz25 (by first | decide | exact Nat.le_refl _ | exact Nat.le_of_ble_eq_true rfl | (simp [rowN]; done) | (simp [rowN]; omega)) (by first | exact rowN_one _ _ | (simp; done) | (intro u hu; simp at hu; subst hu; rfl) | (intro u hu; simp at hu; rcases hu with rfl | rfl <;> rfl)) (by first | decide | exact Nat.zero_lt_succ _ | simp) trivial (wc (S.getD (ix (n - 1)) 0)) rfl ?_
  refine J.end ?_
  refine X.then ?_
  refine T.ret ?_
  exact X.ret1 rfl (RV.agg 2 rfl rfl agg25 (wc (S.getD (ix (n - 1)) 0)) (by rfl) (by rfl) rfl) (fun w' hw' => ⟨rfl, hw'.only 0 0 rfl⟩)

theorem Turn (w : World) (g : Nat) (S : List Nat) (n : Int) (hS : S.length = 1024) (hn : -4611686018427387904 ≤ n ∧ n ≤ 4611686018427387904) (hat : Ent.At w ⟨some g, 89, stkM S n⟩) (a b : Int) :
    Calls Try.prog 28 [.pointer (some ⟨g, 0, none⟩), .int .i64 a, .int .i64 b].toArray w fun e w' => e = .returned (.tuple #[]) ∧ WS w [g] [(0, ⟨some g, 89, stkM (swp S (ix (n - a)) (ix (n - b))) (n)⟩)] w' := by
  refine calls_of_T [g] 40 [(0, ⟨some g, 89, stkM S n⟩)] Try.func28 rfl Try.ntmps28 (by simp) (WS.one hat) ?_
  refine T.seq ?_
  refine T.draw [] [(0, .g), (1, .g), (2, .g), (3, .g), (4, .q), (5, .g), (6, .g), (7, .g), (8, .g), (9, .g), (10, .g), (11, .g), (12, .g), (13, .g), (14, .g), (15, .q), (16, .g), (17, .g), (18, .g), (19, .g), (20, .g), (21, .g), (22, .g), (23, .g)] (by kernel_rfl) (by kernel_rfl) ?_ (by repeat (first | exact Sub.nil _ | refine Sub.cons (by first | rfl | (rw [dgs_zero]; rfl) | (rw [List.drop_length]; rfl) | (simp; done) | (congr 2; omega) | (congr 3; omega)) ?_))
  refine J.move rfl rfl ?_
  refine J.move rfl rfl ?_
  refine J.nilCheck rfl rfl ?_
  refine J.fieldAddr fld89_1 rfl rfl ?_
  refine J.load1 (k := .q) trivial 0 rfl rfl one3 (stkM_n hS) rfl ?_
  refine J.move rfl rfl ?_
  refine J.sub' rfl rfl rfl rfl ?_
  refine J.band rfl rfl rfl (and1023' _) ?_
  refine J.nilCheck rfl rfl ?_
  refine J.fieldAddr fld89_0 rfl rfl ?_
  refine J.indexArr arr58 rfl rfl (by omega) (by omega) (by first | exact Int.toNat_natCast _ | rfl) rfl ?_
  refine J.move rfl rfl ?_
  refine J.move rfl rfl ?_
  refine J.nilCheck rfl rfl ?_
  refine J.fieldAddr fld89_1 rfl rfl ?_
  refine J.load1 (k := .q) trivial 0 rfl rfl one3 (stkM_n hS) rfl ?_
  refine J.move rfl rfl ?_
  refine J.sub' rfl rfl rfl rfl ?_
  refine J.band rfl rfl rfl (and1023' _) ?_
  refine J.nilCheck rfl rfl ?_
  refine J.fieldAddr fld89_0 rfl rfl ?_
  refine J.indexArr arr58 rfl rfl (by omega) (by omega) (by first | exact Int.toNat_natCast _ | rfl) rfl ?_
  refine J.assign rfl rfl ?_
  refine J.assign rfl rfl ?_
  refine J.end ?_
  refine X.then ?_
  refine T.draw [] [(0, .g), (1, .g), (2, .g), (3, .g), (4, .q), (5, .g), (6, .g), (7, .q), (8, .g), (9, .l), (10, .g), (11, .l)] (by kernel_rfl) (by kernel_rfl) ?_ (by repeat (first | exact Sub.nil _ | refine Sub.cons (by first | rfl | (rw [dgs_zero]; rfl) | (rw [List.drop_length]; rfl) | (simp; done) | (congr 2; omega) | (congr 3; omega)) ?_))
  refine J.move rfl rfl ?_
  refine J.move rfl rfl ?_
  refine J.move rfl rfl ?_
  refine J.nilCheck rfl rfl ?_
  refine J.loadW (k := .q) trivial 0 rfl rfl agg25 (stkM_w hS _) rfl ?_
  refine J.move rfl rfl ?_
  refine J.nilCheck rfl rfl ?_
  refine J.loadW (k := .q) trivial 0 rfl rfl agg25 (stkM_w hS _) rfl ?_
  refine J.nilCheck rfl rfl ?_
  refine J.store 0 rfl rfl rfl rfl (wc (S.getD (ix (n - b)) 0)) rfl sz25 (by rw [stkM_len hS]; exact stk_fit 0 (n - a) (by omega)) (rowN_one _ _) (by show 0 < 4; omega) trivial (stkM (S.set (ix (n - a)) (S.getD (ix (n - b)) 0)) n) (stkM_put hS _ _) ?_
  refine J.nilCheck rfl rfl ?_
  refine J.store 0 rfl rfl rfl rfl (wc (S.getD (ix (n - a)) 0)) rfl sz25 (by rw [stkM_len (by rw [List.length_set]; exact hS)]; exact stk_fit 0 (n - b) (by omega)) (rowN_one _ _) (by show 0 < 4; omega) trivial (stkM (swp S (ix (n - a)) (ix (n - b))) n) (stkM_put (by rw [List.length_set]; exact hS) _ _) ?_
  refine J.end ?_
  exact X.end0 rfl (fun w' hw' => ⟨rfl, hw'.only 0 0 rfl⟩)

theorem Again (w : World) (g : Nat) (S : List Nat) (n : Int) (hS : S.length = 1024) (hn : -4611686018427387904 ≤ n ∧ n ≤ 4611686018427387904) (hat : Ent.At w ⟨some g, 89, stkM S n⟩) (m : Int) :
    Calls Try.prog 34 [.pointer (some ⟨g, 0, none⟩), .int .i64 m].toArray w fun e w' => e = .returned (.tuple #[]) ∧ WS w [g] [(0, ⟨some g, 89, stkM (S.set (ix n) (S.getD (ix (n - m)) 0)) (n + 1)⟩)] w' := by
  refine calls_of_T [g] 9 [(0, ⟨some g, 89, stkM S n⟩)] Try.func34 rfl Try.ntmps34 (by simp) (WS.one hat) ?_
  refine T.text [.l, .l, .l, .l, .l] rfl ?_
  refine J.move rfl rfl ?_
  refine J.move rfl rfl ?_
  refine J.move rfl rfl ?_
  refine J.call0 (k := .l) trivial fok33 rfl rfl (fun w hw => Sa.Peek w _ _ _ (by first | assumption | (rw [List.length_set]; assumption) | (simp only [List.length_set, swp_length, pushS_length, dupS_length, swapS_length, exS_length, *]; done)) (by first | assumption | omega) (hw.blkCs (k := 0) rfl) _) ?_
  refine J.callMut 0 rfl rfl fok31 rfl rfl (fun w hw => Sa.Put w _ _ _ (by first | assumption | (rw [List.length_set]; assumption) | (simp only [List.length_set, swp_length, pushS_length, dupS_length, swapS_length, exS_length, *]; done)) (by first | assumption | omega) (hw.live 0 _ rfl) _) ?_
  refine J.end ?_
  exact X.end0 rfl (fun w' hw' => ⟨rfl, hw'.only 0 0 rfl⟩)

theorem Push (w : World) (g : Nat) (S : List Nat) (n : Int) (hS : S.length = 1024) (hn : -4611686018427387904 ≤ n ∧ n ≤ 4611686018427387904) (hat : Ent.At w ⟨some g, 89, stkM S n⟩) (x : Nat) :
    Calls Try.prog 19 [.pointer (some ⟨g, 0, none⟩), W x].toArray w fun e w' => e = .returned (.int .i64 (pushE n : Int)) ∧ WS w [g] [(0, ⟨some g, 89, stkM (pushS S n x) (pushN n)⟩)] w' := by
  refine calls_of_T [g] 13 [(0, ⟨some g, 89, stkM S n⟩)] Try.func19 rfl Try.ntmps19 (by simp) (WS.one hat) ?_
  refine T.seq ?_
  refine T.text [.l, .l] rfl ?_
  refine J.box 3 rfl rfl (wc x) rfl rfl (fun g3 hg3 => ?_)
  refine J.assign rfl rfl ?_
  refine J.end ?_
  refine X.then ?_
  refine T.seq ?_
  refine T.seq ?_
  refine T.text [.l, .l, .l, .l, .l] rfl ?_
  refine J.move rfl rfl ?_
  refine J.nilCheck rfl rfl ?_
  refine J.fieldAddr fld89_1 rfl rfl ?_
  refine J.load1 (k := .l) trivial 0 rfl rfl one3 (stkM_n hS) rfl ?_
  refine J.geq rfl rfl rfl rfl ?_
  refine J.end ?_
  refine X.then ?_
  refine T.cond_dec rfl (fun h1 => ?_) (fun h1 => ?_)
  · skip
    refine T.seq ?_
    refine T.text [.l] rfl ?_
    refine J.assign rfl rfl ?_
    refine J.end ?_
    refine X.then ?_
    refine T.ret ?_
    refine X.then_ret ?_
    exact X.ret1 rfl (RV.tmp rfl) (fun w' hw' => ⟨by unfold pushE; rw [if_pos (by omega)]; rfl, hw'.only 0 0 (by unfold pushS pushN; rw [if_pos (by omega), if_pos (by omega)]; rfl)⟩)
  · skip
    refine T.skip ?_
    refine X.then ?_
    refine T.seq ?_
    refine T.text [.l, .l, .l] rfl ?_
    refine J.move rfl rfl ?_
    refine J.loadN (k := .l) trivial 3 rfl rfl agg25 (wc x) rfl rfl rfl ?_
    refine J.callMut 0 rfl rfl fok31 rfl rfl (fun w hw => Sa.Put w _ _ _ (by first | assumption | (rw [List.length_set]; assumption) | (simp only [List.length_set, swp_length, pushS_length, dupS_length, swapS_length, exS_length, *]; done)) (by first | assumption | omega) (hw.live 0 _ rfl) _) ?_
    refine J.end ?_
    refine X.then ?_
    refine T.seq ?_
    refine T.text [.l] rfl ?_
    refine J.assign rfl rfl ?_
    refine J.end ?_
    refine X.then ?_
    refine T.ret ?_
    exact X.ret1 rfl (RV.tmp rfl) (fun w' hw' => ⟨by unfold pushE; rw [if_neg (by omega)]; rfl, hw'.only 0 0 (by unfold pushS pushN; rw [if_neg (by omega), if_neg (by omega)]; rfl)⟩)

theorem Pop (w : World) (g : Nat) (S : List Nat) (n : Int) (hS : S.length = 1024) (hn : -4611686018427387904 ≤ n ∧ n ≤ 4611686018427387904) (hat : Ent.At w ⟨some g, 89, stkM S n⟩) :
    Calls Try.prog 24 [.pointer (some ⟨g, 0, none⟩)].toArray w fun e w' => e = .returned (.tuple #[W (popX S n), .int .i64 (popE n : Int)]) ∧ WS w [g] [(0, ⟨some g, 89, stkM (S) (popN n)⟩)] w' := by
  refine calls_of_T [g] 12 [(0, ⟨some g, 89, stkM S n⟩)] Try.func24 rfl Try.ntmps24 (by simp) (WS.one hat) ?_
  refine T.seq ?_
  refine T.text [.l, .l] rfl ?_
  refine J.alloc 2 rfl zero25 [.int .u64 0, .int .u64 0, .int .u64 0, .int .u64 0] rfl rfl (fun g2 hg2 => ?_)
  refine J.assign rfl rfl ?_
  refine J.end ?_
  refine X.then ?_
  refine T.seq ?_
  refine T.seq ?_
  refine T.text [.l, .l, .l, .l, .l] rfl ?_
  refine J.move rfl rfl ?_
  refine J.nilCheck rfl rfl ?_
  refine J.fieldAddr fld89_1 rfl rfl ?_
  refine J.load1 (k := .l) trivial 0 rfl rfl one3 (stkM_n hS) rfl ?_
  refine J.lss rfl rfl rfl rfl ?_
  refine J.end ?_
  refine X.then ?_
  refine T.cond_dec rfl (fun h1 => ?_) (fun h1 => ?_)
  · skip
    refine T.seq ?_
    refine T.text [.l, .l, .l] rfl ?_
    refine J.build rfl rfl (W 0) (fun w => by kernel_rfl) ?_
    refine J.store 2 rfl rfl rfl rfl (wc 0) rfl sz25 (by first | decide | exact Nat.le_refl _ | exact Nat.le_of_ble_eq_true rfl | (simp [rowN]; done) | (simp [rowN]; omega)) (by first | exact rowN_one _ _ | (simp; done) | (intro u hu; simp at hu; subst hu; rfl) | (intro u hu; simp at hu; rcases hu with rfl | rfl <;> rfl)) (by first | decide | exact Nat.zero_lt_succ _ | simp) trivial (wc 0) rfl ?_
    refine J.assign rfl rfl ?_
    refine J.end ?_
    refine X.then ?_
    refine T.ret ?_
    refine X.then_ret ?_
    exact X.ret2 rfl (RV.agg 2 rfl rfl agg25 (wc 0) (by rfl) (by rfl) rfl) (RV.tmp rfl) (fun w' hw' => ⟨by unfold popX popE; rw [if_pos (by omega), if_pos (by omega)]; rfl, hw'.only 0 0 (by unfold popN; rw [if_pos (by omega)]; rfl)⟩)
  · skip
    refine T.skip ?_
    refine X.then ?_
    refine T.seq ?_
    refine T.text [.l, .l, .l, .l] rfl ?_
    refine J.move rfl rfl ?_
    refine J.callMut 0 rfl rfl fok32 rfl rfl (fun w hw => Sa.Take w _ _ _ (by first | assumption | (rw [List.length_set]; assumption) | (simp only [List.length_set, swp_length, pushS_length, dupS_length, swapS_length, exS_length, *]; done)) (by first | assumption | omega) (hw.live 0 _ rfl)) ?_
    refine J.store 2 rfl rfl rfl rfl (wc (S.getD (ix (n - 1)) 0)) rfl sz25 (by first | decide | exact Nat.le_refl _ | exact Nat.le_of_ble_eq_true rfl | (simp [rowN]; done) | (simp [rowN]; omega)) (by first | exact rowN_one _ _ | (simp; done) | (intro u hu; simp at hu; subst hu; rfl) | (intro u hu; simp at hu; rcases hu with rfl | rfl <;> rfl)) (by first | decide | exact Nat.zero_lt_succ _ | simp) trivial (wc (S.getD (ix (n - 1)) 0)) rfl ?_
    refine J.assign rfl rfl ?_
    refine J.end ?_
    refine X.then ?_
    refine T.ret ?_
    exact X.ret2 rfl (RV.agg 2 rfl rfl agg25 (wc (S.getD (ix (n - 1)) 0)) (by rfl) (by rfl) rfl) (RV.tmp rfl) (fun w' hw' => ⟨by unfold popX popE; rw [if_neg (by omega), if_neg (by omega)]; rfl, hw'.only 0 0 (by unfold popN; rw [if_neg (by omega)]; rfl)⟩)

theorem Dup (w : World) (g : Nat) (S : List Nat) (n : Int) (hS : S.length = 1024) (hn : -4611686018427387904 ≤ n ∧ n ≤ 4611686018427387904) (hat : Ent.At w ⟨some g, 89, stkM S n⟩) (m : Int) (hm : -9223372036854775808 ≤ m ∧ m ≤ 9223372036854775807) :
    Calls Try.prog 30 [.pointer (some ⟨g, 0, none⟩), .int .i64 m].toArray w fun e w' => e = .returned (.int .i64 (dupE n m : Int)) ∧ WS w [g] [(0, ⟨some g, 89, stkM (dupS S n m) (dupN n m)⟩)] w' := by
  refine calls_of_T [g] 19 [(0, ⟨some g, 89, stkM S n⟩)] Try.func30 rfl Try.ntmps30 (by simp) (WS.one hat) ?_
  refine T.seq ?_
  refine T.text [.l] rfl ?_
  refine J.assign rfl rfl ?_
  refine J.end ?_
  refine X.then ?_
  refine T.seq ?_
  refine T.text [.l, .l, .l, .l, .l, .l, .l, .l, .l] rfl ?_
  refine J.move rfl rfl ?_
  refine J.move rfl rfl ?_
  refine J.call0 (k := .l) trivial fok21 rfl rfl (fun w hw => Sa.At w _ _ _ (by first | assumption | (rw [List.length_set]; assumption) | (simp only [List.length_set, swp_length, pushS_length, dupS_length, swapS_length, exS_length, *]; done)) (by first | assumption | omega) (hw.blkCs (k := 0) rfl) _ (by omega)) ?_
  refine J.move rfl rfl ?_
  refine J.extract rfl rfl rfl ?_
  refine J.extract rfl rfl rfl ?_
  refine J.alloc 5 rfl zero25 [.int .u64 0, .int .u64 0, .int .u64 0, .int .u64 0] rfl rfl (fun g5 hg5 => ?_)
  refine J.store 5 rfl rfl rfl rfl (wc (atX S n m)) rfl sz25 (by first | decide | exact Nat.le_refl _ | exact Nat.le_of_ble_eq_true rfl | (simp [rowN]; done) | (simp [rowN]; omega)) (by first | exact rowN_one _ _ | (simp; done) | (intro u hu; simp at hu; subst hu; rfl) | (intro u hu; simp at hu; rcases hu with rfl | rfl <;> rfl)) (by first | decide | exact Nat.zero_lt_succ _ | simp) trivial (wc (atX S n m)) rfl ?_
  refine J.assign rfl rfl ?_
  refine J.end ?_
  refine X.then ?_
  refine T.seq ?_
  refine T.seq ?_
  refine T.text [.l, .l] rfl ?_
  refine J.move rfl rfl ?_
  refine J.neq rfl rfl rfl rfl ?_
  refine J.end ?_
  refine X.then ?_
  refine T.cond_dec rfl (fun h1 => ?_) (fun h1 => ?_)
  · skip
    refine T.seq ?_
    refine T.text [.l, .l] rfl ?_
    refine J.move rfl rfl ?_
    refine J.assign rfl rfl ?_
    refine J.end ?_
    refine X.then ?_
    refine T.ret ?_
    refine X.then_ret ?_
    exact X.ret1 rfl (RV.tmp rfl) (fun w' hw' => ⟨by unfold dupE; rw [if_neg (by omega)], hw'.only 0 0 (by unfold dupS dupN; rw [if_neg (by omega), if_neg (by omega)]; rfl)⟩)
  · skip
    refine T.skip ?_
    refine X.then ?_
    refine T.seq ?_
    refine T.text [.l, .l, .l, .l] rfl ?_
    refine J.move rfl rfl ?_
    refine J.loadN (k := .l) trivial 5 rfl rfl agg25 (wc (atX S n m)) rfl rfl rfl ?_
    refine J.callMut 0 rfl rfl fok19 rfl rfl (fun w hw => Sa.Push w _ _ _ (by first | assumption | (rw [List.length_set]; assumption) | (simp only [List.length_set, swp_length, pushS_length, dupS_length, swapS_length, exS_length, *]; done)) (by first | assumption | omega) (hw.live 0 _ rfl) _) ?_
    refine J.assign rfl rfl ?_
    refine J.end ?_
    refine X.then ?_
    refine T.ret ?_
    exact X.ret1 rfl (RV.tmp rfl) (fun w' hw' => ⟨by unfold dupE; rw [if_pos (by omega)], hw'.only 0 0 (by unfold dupS dupN; rw [if_pos (by omega), if_pos (by omega)]; rfl)⟩)

theorem Swap (w : World) (g : Nat) (S : List Nat) (n : Int) (hS : S.length = 1024) (hn : -4611686018427387904 ≤ n ∧ n ≤ 4611686018427387904) (hat : Ent.At w ⟨some g, 89, stkM S n⟩) (m : Int) (hm : -9223372036854775808 ≤ m ∧ m ≤ 9223372036854775807) :
    Calls Try.prog 27 [.pointer (some ⟨g, 0, none⟩), .int .i64 m].toArray w fun e w' => e = .returned (.int .i64 (swapE n m : Int)) ∧ WS w [g] [(0, ⟨some g, 89, stkM (swapS S n m) (n)⟩)] w' := by
  refine calls_of_T [g] 19 [(0, ⟨some g, 89, stkM S n⟩)] Try.func27 rfl Try.ntmps27 (by simp) (WS.one hat) ?_
  refine T.seq ?_
  refine T.text [.l] rfl ?_
  refine J.assign rfl rfl ?_
  refine J.end ?_
  refine X.then ?_
  refine T.seq ?_
  refine T.block ?_
  refine T.seq ?_
  refine T.text [.l, .l, .l] rfl ?_
  refine J.move rfl rfl ?_
  refine J.lss rfl rfl rfl rfl ?_
  refine J.assign rfl rfl ?_
  refine J.end ?_
  refine X.then ?_
  refine T.cond_dec rfl (fun h1 => ?_) (fun h1 => ?_)
  · skip
    refine T.seq ?_
    refine T.text [.l] rfl ?_
    refine J.assign rfl rfl ?_
    refine J.end ?_
    refine X.then ?_
    refine T.ret ?_
    refine X.inBlock_ret (X.then_ret ?_)
    exact X.ret1 rfl (RV.tmp rfl) (fun w' hw' => ⟨by rw [(sw_lo (S := S) (n := n) (m := m) (by omega)).2]; rfl, hw'.only 0 0 (by rw [(sw_lo (by omega)).1]; rfl)⟩)
  · skip
    refine T.seq ?_
    refine T.text [.l, .l, .l, .l, .l, .l, .l] rfl ?_
    refine J.move rfl rfl ?_
    refine J.move rfl rfl ?_
    refine J.nilCheck rfl rfl ?_
    refine J.fieldAddr fld89_1 rfl rfl ?_
    refine J.load1 (k := .l) trivial 0 rfl rfl one3 (stkM_n hS) rfl ?_
    refine J.geq rfl rfl rfl rfl ?_
    refine J.assign rfl rfl ?_
    refine J.end ?_
    refine X.then ?_
    refine T.cond_dec rfl (fun h2 => ?_) (fun h2 => ?_)
    · skip
      refine T.seq ?_
      refine T.text [.l] rfl ?_
      refine J.assign rfl rfl ?_
      refine J.end ?_
      refine X.then ?_
      refine T.ret ?_
      refine X.inBlock_ret (X.then_ret ?_)
      exact X.ret1 rfl (RV.tmp rfl) (fun w' hw' => ⟨by rw [(sw_hi (S := S) (n := n) (m := m) (by omega) (by omega)).2]; rfl, hw'.only 0 0 (by rw [(sw_hi (by omega) (by omega)).1]; rfl)⟩)
    · skip
      refine T.skip ?_
      refine X.inBlock (X.then ?_)
      refine T.seq ?_
      refine T.text [.l, .l, .l, .l] rfl ?_
      refine J.move rfl rfl ?_
      refine J.move rfl rfl ?_
      refine J.add rfl rfl rfl (by first | exact add_nat _ 1 (by omega) | exact i64_ok _ (by omega) | exact rfl) ?_
      refine J.callMut 0 rfl rfl fok28 rfl rfl (fun w hw => Sa.Turn w _ _ _ (by first | assumption | (rw [List.length_set]; assumption) | (simp only [List.length_set, swp_length, pushS_length, dupS_length, swapS_length, exS_length, *]; done)) (by first | assumption | omega) (hw.live 0 _ rfl) _ _) ?_
      refine J.end ?_
      refine X.then ?_
      refine T.seq ?_
      refine T.text [.l] rfl ?_
      refine J.assign rfl rfl ?_
      refine J.end ?_
      refine X.then ?_
      refine T.ret ?_
      exact X.ret1 rfl (RV.tmp rfl) (fun w' hw' => ⟨by rw [(sw_ok (S := S) (n := n) (m := m) (by omega) (by omega)).2]; rfl, hw'.only 0 0 (by rw [(sw_ok (by omega) (by omega)).1]; rfl)⟩)

theorem Exchange (w : World) (g : Nat) (S : List Nat) (n : Int) (hS : S.length = 1024) (hn : -4611686018427387904 ≤ n ∧ n ≤ 4611686018427387904) (hat : Ent.At w ⟨some g, 89, stkM S n⟩) (m : Int) (hm : -9223372036854775808 ≤ m ∧ m ≤ 9223372036854775807) (q : Int) (hq : -9223372036854775808 ≤ q ∧ q ≤ 9223372036854775807) :
    Calls Try.prog 29 [.pointer (some ⟨g, 0, none⟩), .int .i64 m, .int .i64 q].toArray w fun e w' => e = .returned (.int .i64 (exE n m q : Int)) ∧ WS w [g] [(0, ⟨some g, 89, stkM (exS S n m q) (n)⟩)] w' := by
  refine calls_of_T [g] 39 [(0, ⟨some g, 89, stkM S n⟩)] Try.func29 rfl Try.ntmps29 (by simp) (WS.one hat) ?_
  refine T.seq ?_
  refine T.text [.l] rfl ?_
  refine J.assign rfl rfl ?_
  refine J.end ?_
  refine X.then ?_
  refine T.seq ?_
  refine T.block ?_
  refine T.seq ?_
  refine T.text [.l, .l, .l, .l, .l, .l, .l] rfl ?_
  refine J.move rfl rfl ?_
  refine J.lss rfl rfl rfl rfl ?_
  refine J.move rfl rfl ?_
  refine J.split 10 rfl (fun h1 => ?_) (fun h1 => ?_)
  · skip
    refine J.no rfl rfl rfl rfl ?_
    refine J.no rfl rfl rfl rfl ?_
    refine J.pick_t rfl rfl rfl ?_
    refine J.assign rfl rfl ?_
    refine J.end ?_
    refine X.then ?_
    refine T.cond_true rfl ?_
    refine T.seq ?_
    refine T.text [.l] rfl ?_
    refine J.assign rfl rfl ?_
    refine J.end ?_
    refine X.then ?_
    refine T.ret ?_
    refine X.inBlock_ret (X.then_ret ?_)
    exact X.ret1 rfl (RV.tmp rfl) (fun w' hw' => by
          first
          | exact ⟨by rw [(ex_lo (S := S) (n := n) (m := m) (q := q) (by omega)).2]; rfl, hw'.only 0 0 (by rw [(ex_lo (by omega)).1]; rfl)⟩
          | exact ⟨by rw [(ex_hi (S := S) (n := n) (m := m) (q := q) (by omega) (by omega)).2]; rfl, hw'.only 0 0 (by rw [(ex_hi (by omega) (by omega)).1]; rfl)⟩
          | exact ⟨by rw [(ex_ok (S := S) (n := n) (m := m) (q := q) (by omega) (by omega)).2]; rfl, hw'.only 0 0 (by rw [(ex_ok (by omega) (by omega)).1]; rfl)⟩)
  · skip
    refine J.yes rfl rfl ?_
    refine J.move rfl rfl ?_
    refine J.yes rfl rfl ?_
    refine J.lss rfl rfl rfl rfl ?_
    refine J.pick_f rfl rfl rfl ?_
    refine J.assign rfl rfl ?_
    refine J.end ?_
    refine X.then ?_
    refine T.cond_dec rfl (fun h2 => ?_) (fun h2 => ?_)
    · skip
      refine T.seq ?_
      refine T.text [.l] rfl ?_
      refine J.assign rfl rfl ?_
      refine J.end ?_
      refine X.then ?_
      refine T.ret ?_
      refine X.inBlock_ret (X.then_ret ?_)
      exact X.ret1 rfl (RV.tmp rfl) (fun w' hw' => by
            first
            | exact ⟨by rw [(ex_lo (S := S) (n := n) (m := m) (q := q) (by omega)).2]; rfl, hw'.only 0 0 (by rw [(ex_lo (by omega)).1]; rfl)⟩
            | exact ⟨by rw [(ex_hi (S := S) (n := n) (m := m) (q := q) (by omega) (by omega)).2]; rfl, hw'.only 0 0 (by rw [(ex_hi (by omega) (by omega)).1]; rfl)⟩
            | exact ⟨by rw [(ex_ok (S := S) (n := n) (m := m) (q := q) (by omega) (by omega)).2]; rfl, hw'.only 0 0 (by rw [(ex_ok (by omega) (by omega)).1]; rfl)⟩)
    · skip
      refine T.seq ?_
      refine T.text [.l, .l, .l, .l, .l, .l, .l, .l, .l, .l, .l, .l, .l, .l, .l, .l, .l] rfl ?_
      refine J.move rfl rfl ?_
      refine J.move rfl rfl ?_
      refine J.nilCheck rfl rfl ?_
      refine J.fieldAddr fld89_1 rfl rfl ?_
      refine J.load1 (k := .l) trivial 0 rfl rfl one3 (stkM_n hS) rfl ?_
      refine J.geq rfl rfl rfl rfl ?_
      refine J.move rfl rfl ?_
      refine J.split 21 rfl (fun h3 => ?_) (fun h3 => ?_)
      · skip
        refine J.no rfl rfl rfl rfl ?_
        refine J.no rfl rfl rfl rfl ?_
        refine J.no rfl rfl rfl rfl ?_
        refine J.no rfl rfl rfl rfl ?_
        refine J.no rfl rfl rfl rfl ?_
        refine J.no rfl rfl rfl rfl ?_
        refine J.no rfl rfl rfl rfl ?_
        refine J.no rfl rfl rfl rfl ?_
        refine J.pick_t rfl rfl rfl ?_
        refine J.assign rfl rfl ?_
        refine J.end ?_
        refine X.then ?_
        refine T.cond_true rfl ?_
        refine T.seq ?_
        refine T.text [.l] rfl ?_
        refine J.assign rfl rfl ?_
        refine J.end ?_
        refine X.then ?_
        refine T.ret ?_
        refine X.inBlock_ret (X.then_ret ?_)
        exact X.ret1 rfl (RV.tmp rfl) (fun w' hw' => by
              first
              | exact ⟨by rw [(ex_lo (S := S) (n := n) (m := m) (q := q) (by omega)).2]; rfl, hw'.only 0 0 (by rw [(ex_lo (by omega)).1]; rfl)⟩
              | exact ⟨by rw [(ex_hi (S := S) (n := n) (m := m) (q := q) (by omega) (by omega)).2]; rfl, hw'.only 0 0 (by rw [(ex_hi (by omega) (by omega)).1]; rfl)⟩
              | exact ⟨by rw [(ex_ok (S := S) (n := n) (m := m) (q := q) (by omega) (by omega)).2]; rfl, hw'.only 0 0 (by rw [(ex_ok (by omega) (by omega)).1]; rfl)⟩)
      · skip
        refine J.yes rfl rfl ?_
        refine J.move rfl rfl ?_
        refine J.yes rfl rfl ?_
        refine J.move rfl rfl ?_
        refine J.yes rfl rfl ?_
        refine J.nilCheck rfl rfl ?_
        refine J.yes rfl rfl ?_
        refine J.fieldAddr fld89_1 rfl rfl ?_
        refine J.yes rfl rfl ?_
        refine J.load1 (k := .l) trivial 0 rfl rfl one3 (stkM_n hS) rfl ?_
        refine J.yes rfl rfl ?_
        refine J.move rfl rfl ?_
        refine J.yes rfl rfl ?_
        refine J.sub' rfl rfl rfl (by first | exact sub_nat _ _ (by omega) | exact i64_ok _ (by omega) | exact rfl) ?_
        refine J.yes rfl rfl ?_
        refine J.geq rfl rfl rfl rfl ?_
        refine J.pick_f rfl rfl rfl ?_
        refine J.assign rfl rfl ?_
        refine J.end ?_
        refine X.then ?_
        refine T.cond_dec rfl (fun h4 => ?_) (fun h4 => ?_)
        · skip
          refine T.seq ?_
          refine T.text [.l] rfl ?_
          refine J.assign rfl rfl ?_
          refine J.end ?_
          refine X.then ?_
          refine T.ret ?_
          refine X.inBlock_ret (X.then_ret ?_)
          exact X.ret1 rfl (RV.tmp rfl) (fun w' hw' => by
                first
                | exact ⟨by rw [(ex_lo (S := S) (n := n) (m := m) (q := q) (by omega)).2]; rfl, hw'.only 0 0 (by rw [(ex_lo (by omega)).1]; rfl)⟩
                | exact ⟨by rw [(ex_hi (S := S) (n := n) (m := m) (q := q) (by omega) (by omega)).2]; rfl, hw'.only 0 0 (by rw [(ex_hi (by omega) (by omega)).1]; rfl)⟩
                | exact ⟨by rw [(ex_ok (S := S) (n := n) (m := m) (q := q) (by omega) (by omega)).2]; rfl, hw'.only 0 0 (by rw [(ex_ok (by omega) (by omega)).1]; rfl)⟩)
        · skip
          refine T.skip ?_
          refine X.inBlock (X.then ?_)
          refine T.seq ?_
          refine T.text [.l, .l, .l, .l, .l, .l, .l, .l] rfl ?_
          refine J.move rfl rfl ?_
          refine J.move rfl rfl ?_
          refine J.add rfl rfl rfl (by first | exact add_nat _ 1 (by omega) | exact i64_ok _ (by omega) | exact rfl) ?_
          refine J.move rfl rfl ?_
          refine J.move rfl rfl ?_
          refine J.add rfl rfl rfl (by first | exact add_nat _ _ (by omega) | exact i64_ok _ (by omega) | exact rfl) ?_
          refine J.add rfl rfl rfl (by first | exact add_nat _ 1 (by omega) | exact i64_ok _ (by omega) | exact rfl) ?_
          refine J.callMut 0 rfl rfl fok28 rfl rfl (fun w hw => Sa.Turn w _ _ _ (by first | assumption | (rw [List.length_set]; assumption) | (simp only [List.length_set, swp_length, pushS_length, dupS_length, swapS_length, exS_length, *]; done)) (by first | assumption | omega) (hw.live 0 _ rfl) _ _) ?_
          refine J.end ?_
          refine X.then ?_
          refine T.seq ?_
          refine T.text [.l] rfl ?_
          refine J.assign rfl rfl ?_
          refine J.end ?_
          refine X.then ?_
          refine T.ret ?_
          exact X.ret1 rfl (RV.tmp rfl) (fun w' hw' => by
                first
                | exact ⟨by rw [(ex_lo (S := S) (n := n) (m := m) (q := q) (by omega)).2]; rfl, hw'.only 0 0 (by rw [(ex_lo (by omega)).1]; rfl)⟩
                | exact ⟨by rw [(ex_hi (S := S) (n := n) (m := m) (q := q) (by omega) (by omega)).2]; rfl, hw'.only 0 0 (by rw [(ex_hi (by omega) (by omega)).1]; rfl)⟩
                | exact ⟨by rw [(ex_ok (S := S) (n := n) (m := m) (q := q) (by omega) (by omega)).2]; rfl, hw'.only 0 0 (by rw [(ex_ok (by omega) (by omega)).1]; rfl)⟩)

theorem Words (w : World) (g : Nat) (S : List Nat) (n : Int) (hS : S.length = 1024) (hn : -4611686018427387904 ≤ n ∧ n ≤ 4611686018427387904) (hcS : Cs w (some ⟨g, 0, none⟩) (stkM S n)) :
    Calls Try.prog 23 [.pointer (some ⟨g, 0, none⟩)].toArray w fun e w' => RowsWPost w 25 (fun zs => zs = wordsS S n) e w' := by
  refine calls_of_T [] 54 [] Try.func23 rfl Try.ntmps23 (by simp) (WS.refl _ _) ?_
  refine T.seq ?_
  refine T.text [.l] rfl ?_
  refine J.assign rfl rfl ?_
  refine J.end ?_
  refine X.then ?_
  refine T.seq ?_
  refine T.seq ?_
  refine T.text [.l, .l, .l, .l, .l] rfl ?_
  refine J.move rfl rfl ?_
  refine J.nilCheck rfl rfl ?_
  refine J.fieldAddr fld89_1 rfl rfl ?_
  refine J.loadB1 (k := .l) trivial hcS (off_nil _) rfl one3 (stkM_n hS) rfl ?_
  refine J.leq rfl rfl rfl rfl ?_
  refine J.end ?_
  refine X.then ?_
  refine T.cond_dec rfl (fun h1 => ?_) (fun h1 => ?_)
  · obtain ⟨m, hm⟩ : ∃ m : Nat, (m : Int) = max n 0 := ⟨(max n 0).toNat, by omega⟩
    refine T.seq ?_
    refine T.text [.l, .l, .l, .l, .l, .l, .l] rfl ?_
    refine J.move rfl rfl ?_
    refine J.nilCheck rfl rfl ?_
    refine J.fieldAddr fld89_1 rfl rfl ?_
    refine J.loadB1 (k := .l) trivial hcS (off_nil _) rfl one3 (stkM_n hS) rfl ?_
    refine J.max2 rfl rfl rfl rfl ?_
    refine J.as 15 (.int .i64 (m : Int)) rfl (by congr 1; split <;> omega) ?_
    refine J.makeSlice 16 rfl (q := m) (c0 := m) Try.underlying32 el25 rfl rfl (by first | rfl | omega) (by first | rfl | omega) (by omega) (by omega) (by unfold maxLen; omega) rfl (fun g16 hg16 => ?_)
    rw [zeros_word]
    refine J.assign rfl rfl ?_
    refine J.end ?_
    refine X.then ?_
    refine T.seq ?_
    refine T.text [.l, .l, .l, .l, .l, .l, .l, .l, .l, .l] rfl ?_
    refine J.move rfl rfl ?_
    refine J.move rfl rfl ?_
    refine J.nilCheck rfl rfl ?_
    refine J.fieldAddr fld89_0 rfl rfl ?_
    refine J.move rfl rfl ?_
    refine J.lenSl Try.underlying32 rfl rfl ?_
    refine J.move rfl rfl ?_
    refine J.lenSl Try.underlying32 rfl rfl ?_
    refine J.sliceArr arr58 rfl optInt.none (optInt.some rfl (by omega) (by first | exact Int.toNat_natCast _ | rfl)) (optInt.some rfl (by omega) (by first | exact Int.toNat_natCast _ | rfl)) (by simp) (by omega) (by omega) (by omega) rfl rfl ?_
    refine J.as 25 (.slice (some ⟨g, 0, none⟩) m m) rfl (by simp) ?_
    refine J.copy 16 rfl (o := 0) (q := m) (news := (rowW (S.take m))) sl32 (by decide) rfl rfl rfl (fun _ => rfl) (Nat.min_self _) (by rw [rowW_length, List.length_take]; omega) (fun w hw => ((by have h2 := hcS.left.take (m * 4); rw [rowW_take] at h2; exact h2 : Cs _ _ (rowW (S.take m))).ws hw (off_nil _))) (rowW_one _) (by show _ ≤ (rowW (List.replicate m 0)).length; rw [rowW_length, rowW_length, List.length_take, List.length_replicate]; omega) rfl (rowW (S.take m)) (put_all _ _ (by rw [rowW_length, rowW_length, List.length_take, List.length_replicate]; omega)) ?_
    refine J.end ?_
    refine X.then ?_
    refine T.seq ?_
    refine T.text [.l, .l] rfl ?_
    refine J.move rfl rfl ?_
    refine J.assign rfl rfl ?_
    refine J.end ?_
    refine X.then ?_
    refine T.ret ?_
    refine X.then_ret ?_
    exact X.ret1 rfl (RV.tmp rfl) (fun w' hw' => RowsWPost.mk' (S.take m) (wordsA hS m (by omega) (by omega)) ⟨some g16, m, []⟩ (by rw [List.length_take, Nat.min_eq_left (by omega)]; exact RowIx.blk_ok' _ _ _ (by unfold maxLen; omega)) (by rw [List.length_take, Nat.min_eq_left (by omega)]; rfl) hw' 16 (by simp [RowIx.ent]; rfl))
  · have hf := ix_lt n
    have hfc := ix_cast n
    refine T.skip ?_
    refine X.then ?_
    refine T.seq ?_
    refine T.text [.l, .l] rfl ?_
    refine J.makeSlice 28 rfl (q := 1024) (c0 := 1024) Try.underlying32 el25 rfl rfl (by first | rfl | omega) (by first | rfl | omega) (by omega) (by omega) (by unfold maxLen; omega) rfl (fun g28 hg28 => ?_)
    rw [zeros_word]
    refine J.assign rfl rfl ?_
    refine J.end ?_
    refine X.then ?_
    refine T.seq ?_
    refine T.text [.l, .l, .l, .l, .l, .l] rfl ?_
    refine J.move rfl rfl ?_
    refine J.nilCheck rfl rfl ?_
    refine J.fieldAddr fld89_1 rfl rfl ?_
    refine J.loadB1 (k := .l) trivial hcS (off_nil _) rfl one3 (stkM_n hS) rfl ?_
    refine J.band rfl rfl rfl (and1023 _) ?_
    refine J.as 33 (.int .i64 ((ix n : Nat) : Int)) rfl (by rw [hfc]) ?_
    refine J.assign rfl rfl ?_
    refine J.end ?_
    refine X.then ?_
    refine T.seq ?_
    refine T.text [.l, .l, .l, .l, .l, .l, .l] rfl ?_
    refine J.move rfl rfl ?_
    refine J.move rfl rfl ?_
    refine J.nilCheck rfl rfl ?_
    refine J.fieldAddr fld89_0 rfl rfl ?_
    refine J.move rfl rfl ?_
    refine J.sliceArr arr58 rfl (optInt.some rfl (by omega) (by first | exact Int.toNat_natCast _ | rfl)) optInt.none optInt.none (by simp) (by omega) (by omega) (by omega) rfl rfl ?_
    refine J.as 39 (.slice (some ⟨g, ix n * 4, none⟩) (1024 - ix n) (1024 - ix n)) rfl (by rw [if_neg (by omega), Nat.add_zero, Nat.zero_add]) ?_
    refine J.copy 28 rfl (o := 0) (q := (1024 - ix n)) (news := (rowW (S.drop (ix n)))) sl32 (by decide) rfl rfl rfl (fun _ => rfl) (by omega) (by rw [rowW_length, List.length_drop, hS]) (fun w hw => ((by have h2 := hcS.left.drop (ix n * 4); rw [rowW_drop] at h2; simpa [add_lit'] using h2 : Cs _ _ (rowW (S.drop (ix n)))).ws hw (off_nil _))) (rowW_one _) (by show _ ≤ (rowW (List.replicate 1024 0)).length; rw [rowW_length, rowW_length, List.length_drop, List.length_replicate]; omega) rfl (rowW (S.drop (ix n) ++ List.replicate (ix n) 0)) ((put_front _ _ (by rw [List.length_drop, List.length_replicate]; omega)).trans (by rw [List.drop_replicate, List.length_drop, hS, show 1024 - (1024 - ix n) = ix n by omega])) ?_
    refine J.end ?_
    refine X.then ?_
    refine T.seq ?_
    refine T.draw [] [(0, .g), (1, .g), (2, .g), (3, .g), (4, .g), (5, .g), (6, .g), (7, .g), (8, .g), (9, .g), (10, .g), (11, .l)] (by kernel_rfl) (by kernel_rfl) ?_ (by repeat (first | exact Sub.nil _ | refine Sub.cons (by first | rfl | (rw [dgs_zero]; rfl) | (rw [List.drop_length]; rfl) | (simp; done) | (congr 2; omega) | (congr 3; omega)) ?_))
    refine J.move rfl rfl ?_
    refine J.move rfl rfl ?_
    refine J.lenSl Try.underlying32 rfl rfl ?_
    refine J.move rfl rfl ?_
    refine J.sub' rfl rfl rfl (by first | exact sub_nat _ _ (by omega) | exact i64_ok _ (by omega) | exact rfl) ?_
    refine J.sliceSl sl32 rfl (optInt.some rfl (by omega) (by first | exact Int.toNat_natCast _ | rfl)) optInt.none optInt.none (by simp) (by omega) (by omega) (by omega) rfl rfl ?_
    refine J.move rfl rfl ?_
    refine J.nilCheck rfl rfl ?_
    refine J.fieldAddr fld89_0 rfl rfl ?_
    refine J.move rfl rfl ?_
    refine J.sliceArr arr58 rfl optInt.none (optInt.some rfl (by omega) (by first | exact Int.toNat_natCast _ | rfl)) optInt.none (by simp) (by omega) (by omega) (by omega) rfl rfl ?_
    refine J.as 51 (.slice (some ⟨g, 0, none⟩) (ix n) 1024) rfl (by rw [if_neg (by omega), Nat.zero_mul, Nat.sub_zero, Nat.sub_zero]) ?_
    refine J.copy 28 rfl (o := ((1024 - ix n) * 4)) (q := (ix n)) (news := (rowW (S.take (ix n)))) sl32 (by decide) rfl rfl rfl (fun hne => by rw [if_neg (fun e => hne (by rw [show ix n = 0 by omega]; rfl))]; simp [hdOf, add_lit']) (by omega) (by rw [rowW_length, List.length_take]; omega) (fun w hw => ((by have h2 := hcS.left.take (ix n * 4); rw [rowW_take] at h2; exact h2 : Cs _ _ (rowW (S.take (ix n)))).ws hw (off_nil _))) (rowW_one _) (by show _ ≤ (rowW (S.drop (ix n) ++ List.replicate (ix n) 0)).length; rw [rowW_length, rowW_length, List.length_append, List.length_drop, List.length_take, List.length_replicate]; omega) rfl (rowW (S.drop (ix n) ++ S.take (ix n))) ((put_back _ _ _ (by rw [List.length_append, List.length_drop, List.length_take, List.length_replicate]; omega)).trans (by rw [List.take_append_of_le_length (by rw [List.length_drop]; omega), List.take_of_length_le (by rw [List.length_drop]; omega)])) ?_
    refine J.end ?_
    refine X.then ?_
    refine T.seq ?_
    refine T.text [.l, .l] rfl ?_
    refine J.move rfl rfl ?_
    refine J.assign rfl rfl ?_
    refine J.end ?_
    refine X.then ?_
    refine T.ret ?_
    exact X.ret1 rfl (RV.tmp rfl) (fun w' hw' => RowsWPost.mk' (S.drop (ix n) ++ S.take (ix n)) (wordsB hS (by omega)) ⟨some g28, 1024, []⟩ (by rw [List.length_append, List.length_drop, List.length_take, hS, show 1024 - ix n + min (ix n) 1024 = 1024 by omega]; exact RowIx.blk_ok' _ _ _ (by unfold maxLen; omega)) (by rw [List.length_append, List.length_drop, List.length_take, hS, show 1024 - ix n + min (ix n) 1024 = 1024 by omega]; rfl) hw' 28 (by simp [RowIx.ent]; rfl))
end Go.Proofs.Ytpkjbeebhdgleaa.Sa
