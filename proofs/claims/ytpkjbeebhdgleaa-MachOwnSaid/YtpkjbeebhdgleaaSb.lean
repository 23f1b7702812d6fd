/-
  Walks, printed by gen.py: what each function hands back, said of numbers.
  Conditions: those that each theorem bears.
-/
import Derived.Test.YtpkjbeebhdgleaaChecked
import Derived.Test.YtpkjbeebhdgleaaFi
set_option linter.unusedVariables false
set_option maxRecDepth 20000
namespace Go.Proofs.Ytpkjbeebhdgleaa.Sb
open Go Go.Fw

theorem sz3 : SizeT Try.prog 3 1 := (by unfold SizeT; kernel_rfl)
theorem fld110_0 : FldT Try.prog 110 0 3 0 0 := ⟨by kernel_rfl, sz3⟩
theorem one3 : OneT Try.prog 3 := ⟨⟨_, Try.underlying3, rfl⟩, by kernel_rfl⟩
theorem fok109 : FnOk Try.prog 109 := FnOk.mk' Try.func109 (by kernel_rfl) rfl
theorem zero25 : ZeroT Try.prog 25 (.agg ([.int .u64 0, .int .u64 0, .int .u64 0, .int .u64 0]).toArray) := (by unfold ZeroT; kernel_rfl)
theorem fok110 : FnOk Try.prog 110 := FnOk.mk' Try.func110 (by kernel_rfl) rfl
theorem sz58 : SizeT Try.prog 58 4096 := (by unfold SizeT; kernel_rfl)
theorem fld110_1 : FldT Try.prog 110 1 58 1 4095 := ⟨by kernel_rfl, sz58⟩
theorem sz25 : SizeT Try.prog 25 4 := (by unfold SizeT; kernel_rfl)
theorem arr58 : ArrT Try.prog 58 1024 25 4 := ⟨Try.underlying58, sz25⟩
theorem agg25 : AggT Try.prog 25 4 := ⟨⟨_, Try.underlying25, rfl⟩, by kernel_rfl⟩
theorem fok91 : FnOk Try.prog 91 := FnOk.mk' Try.func91 (by kernel_rfl) rfl
theorem fok89 : FnOk Try.prog 89 := FnOk.mk' Try.func89 (by kernel_rfl) rfl
theorem fok90 : FnOk Try.prog 90 := FnOk.mk' Try.func90 (by kernel_rfl) rfl
theorem fok96 : FnOk Try.prog 96 := FnOk.mk' Try.func96 (by kernel_rfl) rfl
theorem fok94 : FnOk Try.prog 94 := FnOk.mk' Try.func94 (by kernel_rfl) rfl
theorem fok93 : FnOk Try.prog 93 := FnOk.mk' Try.func93 (by kernel_rfl) rfl
theorem el25 : ElT Try.prog 25 4 32 (.agg ([.int .u64 0, .int .u64 0, .int .u64 0, .int .u64 0]).toArray) := ⟨by kernel_rfl, rfl, by decide, by decide⟩

set_option maxHeartbeats 4000000 in
theorem NewStack (w : World) :
    Calls Try.prog 75 [].toArray w fun e w' => NewPost w 110 (stkR zstk 0) e w' := by
  refine calls_of_T [] 3 [] Try.func75 rfl Try.ntmps75 (by simp) (WS.refl _ _) ?_
  refine T.seq ?_
  refine T.text [.l] rfl ?_
  refine J.assign rfl rfl ?_
  refine J.end ?_
  refine X.then ?_
  refine T.seq ?_
  refine T.text [.l, .l, .l] rfl ?_
  refine J.build rfl rfl (.agg (stkR zstk 0).toArray) (fun w => by kernel_rfl) ?_
  refine J.box 2 rfl rfl (stkR zstk 0) rfl rfl (fun g2 hg2 => ?_)
  refine J.assign rfl rfl ?_
  refine J.end ?_
  refine X.then ?_
  refine T.ret ?_
  exact X.ret1 rfl (RV.tmp rfl) (fun w' hw' => ⟨g2, hg2, rfl, hw'.only 2 0 rfl⟩)

theorem place (w : World) (i : Int) :
    Calls Try.prog 109 [.int .i64 i, .int .i64 1024].toArray w fun e w' => e = .returned (.int .i64 (i % 1024)) ∧ WS w [] [] w' := by
  have hb := tmod_bound i
  refine calls_of_T [] 15 [] Try.func109 rfl Try.ntmps109 (by simp) (WS.refl _ _) ?_
  refine T.seq ?_
  refine T.text [.l] rfl ?_
  refine J.assign rfl rfl ?_
  refine J.end ?_
  refine X.then ?_
  refine T.seq ?_
  refine T.text [.l, .l, .l, .l] rfl ?_
  refine J.move rfl rfl ?_
  refine J.move rfl rfl ?_
  refine J.rem rfl rfl rfl (by omega) rfl ?_
  refine J.assign rfl rfl ?_
  refine J.end ?_
  refine X.then ?_
  refine T.seq ?_
  refine T.seq ?_
  refine T.text [.l, .l] rfl ?_
  refine J.move rfl rfl ?_
  refine J.lss rfl rfl rfl rfl ?_
  refine J.end ?_
  refine X.then ?_
  refine T.cond_dec rfl (fun h1 => ?_) (fun h1 => ?_)
  · skip
    refine T.text [.l, .l, .l, .l] rfl ?_
    refine J.move rfl rfl ?_
    refine J.move rfl rfl ?_
    refine J.add rfl rfl rfl (by first | exact add_nat _ _ (by omega) | exact i64_ok _ (by omega) | exact rfl) ?_
    refine J.assign rfl rfl ?_
    refine J.end ?_
    refine X.then ?_
    refine T.seq ?_
    refine T.text [.l, .l] rfl ?_
    refine J.move rfl rfl ?_
    refine J.assign rfl rfl ?_
    refine J.end ?_
    refine X.then ?_
    refine T.ret ?_
    exact X.ret1 rfl (RV.tmp rfl) (fun w' hw' => ⟨by rw [tmod_neg (by omega)], hw'.sub (Sub.nil _)⟩)
  · skip
    refine T.skip ?_
    refine X.then ?_
    refine T.seq ?_
    refine T.text [.l, .l] rfl ?_
    refine J.move rfl rfl ?_
    refine J.assign rfl rfl ?_
    refine J.end ?_
    refine X.then ?_
    refine T.ret ?_
    exact X.ret1 rfl (RV.tmp rfl) (fun w' hw' => ⟨by rw [tmod_pos (by omega)], hw'.sub (Sub.nil _)⟩)

theorem number (w : World) (g : Nat) (S : List Nat) (n : Int) (hS : S.length = 1024) (hn : -4611686018427387904 ≤ n ∧ n ≤ 4611686018427387904) (hcS : Cs w (some ⟨g, 0, none⟩) (stkR S n)) (m : Int) :
    Calls Try.prog 110 [.pointer (some ⟨g, 0, none⟩), .int .i64 m].toArray w fun e w' => e = .returned (.int .i64 (n % 1024 - m % 1024)) ∧ WS w [] [] w' := by
  refine calls_of_T [] 13 [] Try.func110 rfl Try.ntmps110 (by simp) (WS.refl _ _) ?_
  refine T.seq ?_
  refine T.text [.l] rfl ?_
  refine J.assign rfl rfl ?_
  refine J.end ?_
  refine X.then ?_
  refine T.seq ?_
  refine T.text [.l, .l, .l, .l, .l, .l, .l, .l, .l] rfl ?_
  refine J.move rfl rfl ?_
  refine J.nilCheck rfl rfl ?_
  refine J.fieldAddr fld110_0 rfl rfl ?_
  refine J.loadB1 (k := .l) trivial hcS (off_nil _) rfl one3 rfl rfl ?_
  refine J.call0 (k := .l) trivial fok109 rfl rfl (fun w hw => Sb.place w _) ?_
  refine J.move rfl rfl ?_
  refine J.call0 (k := .l) trivial fok109 rfl rfl (fun w hw => Sb.place w _) ?_
  refine J.sub' rfl rfl rfl (by first | exact sub_nat _ _ (by omega) | exact i64_ok _ (by omega) | exact rfl) ?_
  refine J.assign rfl rfl ?_
  refine J.end ?_
  refine X.then ?_
  refine T.ret ?_
  exact X.ret1 rfl (RV.tmp rfl) (fun w' hw' => ⟨rfl, hw'.sub (Sub.nil _)⟩)

theorem Len (w : World) (g : Nat) (S : List Nat) (n : Int) (hS : S.length = 1024) (hn : -4611686018427387904 ≤ n ∧ n ≤ 4611686018427387904) (hcS : Cs w (some ⟨g, 0, none⟩) (stkR S n)) :
    Calls Try.prog 57 [.pointer (some ⟨g, 0, none⟩)].toArray w fun e w' => e = .returned (.int .i64 n) ∧ WS w [] [] w' := by
  refine calls_of_T [] 7 [] Try.func57 rfl Try.ntmps57 (by simp) (WS.refl _ _) ?_
  refine T.seq ?_
  refine T.text [.l] rfl ?_
  refine J.assign rfl rfl ?_
  refine J.end ?_
  refine X.then ?_
  refine T.seq ?_
  refine T.text [.l, .l, .l, .l, .l] rfl ?_
  refine J.move rfl rfl ?_
  refine J.nilCheck rfl rfl ?_
  refine J.fieldAddr fld110_0 rfl rfl ?_
  refine J.loadB1 (k := .l) trivial hcS (off_nil _) rfl one3 rfl rfl ?_
  refine J.assign rfl rfl ?_
  refine J.end ?_
  refine X.then ?_
  refine T.ret ?_
  exact X.ret1 rfl (RV.tmp rfl) (fun w' hw' => ⟨rfl, hw'.sub (Sub.nil _)⟩)

theorem Peek (w : World) (g : Nat) (S : List Nat) (n : Int) (hS : S.length = 1024) (hn : -4611686018427387904 ≤ n ∧ n ≤ 4611686018427387904) (hcS : Cs w (some ⟨g, 0, none⟩) (stkR S n)) (m : Int) :
    Calls Try.prog 91 [.pointer (some ⟨g, 0, none⟩), .int .i64 m].toArray w fun e w' => e = .returned (W (S.getD (ix (n - m)) 0)) ∧ WS w [] [] w' := by
  refine calls_of_T [] 14 [] Try.func91 rfl Try.ntmps91 (by simp) (WS.refl _ _) ?_
  refine T.seq ?_
  refine T.text [.l] rfl ?_
  refine J.alloc 4 rfl zero25 [.int .u64 0, .int .u64 0, .int .u64 0, .int .u64 0] rfl rfl (fun g4 hg4 => ?_)
  refine J.end ?_
  refine X.then ?_
  refine T.seq ?_
  refine T.draw [] [(0, .g), (1, .g), (2, .g), (3, .q), (4, .q), (5, .g), (6, .g), (7, .g), (8, .q), (9, .l)] (by kernel_rfl) (by kernel_rfl) ?_ (by repeat (first | exact Sub.nil _ | refine Sub.cons (by first | rfl | (rw [dgs_zero]; rfl) | (rw [List.drop_length]; rfl) | (simp; done) | (congr 2; omega) | (congr 3; omega)) ?_))
  refine J.move rfl rfl ?_
  refine J.move rfl rfl ?_
  refine J.move rfl rfl ?_
  refine J.call0 (k := .q) trivial fok110 rfl rfl (fun w hw => Sb.number w _ _ _ (by first | assumption | (rw [List.length_set]; assumption) | (simp only [List.length_set, swp_length, pushS_length, dupS_length, swapS_length, exS_length, *]; done)) (by first | assumption | omega) (hcS.ws hw (off_nil _)) _) ?_
  refine J.call0 (k := .q) trivial fok109 rfl rfl (fun w hw => Sb.place w _) ?_
  refine J.as 9 (.int .i64 ((n - m) % 1024)) rfl (by congr 1; omega) ?_
  refine J.nilCheck rfl rfl ?_
  refine J.fieldAddr fld110_1 rfl rfl ?_
  refine J.indexArr arr58 rfl rfl (by omega) (by omega) (by first | exact Int.toNat_natCast _ | rfl) rfl ?_
  refine J.loadBW (k := .q) trivial hcS (off_nil _) rfl agg25 (stkR_w hS _) rfl ?_
  refine J.store 4 rfl rfl rfl rfl (wc (S.getD (ix (n - m)) 0)) rfl sz25 (by first | decide | exact Nat.le_refl _ | exact Nat.le_of_ble_eq_true rfl | (simp [rowN]; done) | (simp [rowN]; omega)) (by first | exact rowN_one _ _ | (simp; done) | (intro u hu; simp at hu; subst hu; rfl) | (intro u hu; simp at hu; rcases hu with rfl | rfl <;> rfl)) (by first | decide | exact Nat.zero_lt_succ _ | simp) trivial (wc (S.getD (ix (n - m)) 0)) rfl ?_
  refine J.end ?_
  refine X.then ?_
  refine T.ret ?_
  exact X.ret1 rfl (RV.agg 4 rfl rfl agg25 (wc (S.getD (ix (n - m)) 0)) (by rfl) (by rfl) rfl) (fun w' hw' => ⟨rfl, hw'.sub (Sub.nil _)⟩)

theorem At (w : World) (g : Nat) (S : List Nat) (n : Int) (hS : S.length = 1024) (hn : -4611686018427387904 ≤ n ∧ n ≤ 4611686018427387904) (hcS : Cs w (some ⟨g, 0, none⟩) (stkR S n)) (m : Int) (hm : -9223372036854775808 ≤ m ∧ m ≤ 9223372036854775807) :
    Calls Try.prog 96 [.pointer (some ⟨g, 0, none⟩), .int .i64 m].toArray w fun e w' => e = .returned (.tuple #[W (atX S n m), .int .i64 (atE n m : Int)]) ∧ WS w [] [] w' := by
  refine calls_of_T [] 19 [] Try.func96 rfl Try.ntmps96 (by simp) (WS.refl _ _) ?_
  refine T.seq ?_
  refine T.text [.l, .l] rfl ?_
  refine J.alloc 4 rfl zero25 [.int .u64 0, .int .u64 0, .int .u64 0, .int .u64 0] rfl rfl (fun g4 hg4 => ?_)
  refine J.assign rfl rfl ?_
  refine J.end ?_
  refine X.then ?_
  refine T.seq ?_
  refine T.seq ?_
  refine T.text [.l, .l] rfl ?_
  refine J.move rfl rfl ?_
  refine J.lss rfl rfl rfl rfl ?_
  refine J.end ?_
  refine X.then ?_
  refine T.cond_dec rfl (fun h1 => ?_) (fun h1 => ?_)
  · skip
    refine T.seq ?_
    refine T.text [.l, .l, .l] rfl ?_
    refine J.build rfl rfl (W 0) (fun w => by kernel_rfl) ?_
    refine J.store 4 rfl rfl rfl rfl (wc 0) rfl sz25 (by first | decide | exact Nat.le_refl _ | exact Nat.le_of_ble_eq_true rfl | (simp [rowN]; done) | (simp [rowN]; omega)) (by first | exact rowN_one _ _ | (simp; done) | (intro u hu; simp at hu; subst hu; rfl) | (intro u hu; simp at hu; rcases hu with rfl | rfl <;> rfl)) (by first | decide | exact Nat.zero_lt_succ _ | simp) trivial (wc 0) rfl ?_
    refine J.assign rfl rfl ?_
    refine J.end ?_
    refine X.then ?_
    refine T.ret ?_
    refine X.then_ret ?_
    exact X.ret2 rfl (RV.agg 4 rfl rfl agg25 (wc 0) (by rfl) (by rfl) rfl) (RV.tmp rfl) (fun w' hw' => ⟨by have h := at_lo (S := S) (n := n) (m := m) (by omega); rw [h.1, h.2]; rfl, hw'.sub (Sub.nil _)⟩)
  · skip
    refine T.skip ?_
    refine X.then ?_
    refine T.seq ?_
    refine T.seq ?_
    refine T.text [.l, .l, .l, .l, .l, .l] rfl ?_
    refine J.move rfl rfl ?_
    refine J.move rfl rfl ?_
    refine J.nilCheck rfl rfl ?_
    refine J.fieldAddr fld110_0 rfl rfl ?_
    refine J.loadB1 (k := .l) trivial hcS (off_nil _) rfl one3 rfl rfl ?_
    refine J.gtr rfl rfl rfl rfl ?_
    refine J.end ?_
    refine X.then ?_
    refine T.cond_dec rfl (fun h2 => ?_) (fun h2 => ?_)
    · skip
      refine T.seq ?_
      refine T.text [.l, .l, .l] rfl ?_
      refine J.build rfl rfl (W 0) (fun w => by kernel_rfl) ?_
      refine J.store 4 rfl rfl rfl rfl (wc 0) rfl sz25 (by first | decide | exact Nat.le_refl _ | exact Nat.le_of_ble_eq_true rfl | (simp [rowN]; done) | (simp [rowN]; omega)) (by first | exact rowN_one _ _ | (simp; done) | (intro u hu; simp at hu; subst hu; rfl) | (intro u hu; simp at hu; rcases hu with rfl | rfl <;> rfl)) (by first | decide | exact Nat.zero_lt_succ _ | simp) trivial (wc 0) rfl ?_
      refine J.assign rfl rfl ?_
      refine J.end ?_
      refine X.then ?_
      refine T.ret ?_
      refine X.then_ret ?_
      exact X.ret2 rfl (RV.agg 4 rfl rfl agg25 (wc 0) (by rfl) (by rfl) rfl) (RV.tmp rfl) (fun w' hw' => ⟨by have h := at_hi (S := S) (n := n) (m := m) (by omega) (by omega); rw [h.1, h.2]; rfl, hw'.sub (Sub.nil _)⟩)
    · skip
      refine T.skip ?_
      refine X.then ?_
      refine T.seq ?_
      refine T.text [.l, .l, .l, .l, .l] rfl ?_
      refine J.move rfl rfl ?_
      refine J.move rfl rfl ?_
      refine J.call0 (k := .l) trivial fok91 rfl rfl (fun w hw => Sb.Peek w _ _ _ (by first | assumption | (rw [List.length_set]; assumption) | (simp only [List.length_set, swp_length, pushS_length, dupS_length, swapS_length, exS_length, *]; done)) (by first | assumption | omega) (hcS.ws hw (off_nil _)) _) ?_
      refine J.store 4 rfl rfl rfl rfl (wc (S.getD (ix (n - m)) 0)) rfl sz25 (by first | decide | exact Nat.le_refl _ | exact Nat.le_of_ble_eq_true rfl | (simp [rowN]; done) | (simp [rowN]; omega)) (by first | exact rowN_one _ _ | (simp; done) | (intro u hu; simp at hu; subst hu; rfl) | (intro u hu; simp at hu; rcases hu with rfl | rfl <;> rfl)) (by first | decide | exact Nat.zero_lt_succ _ | simp) trivial (wc (S.getD (ix (n - m)) 0)) rfl ?_
      refine J.assign rfl rfl ?_
      refine J.end ?_
      refine X.then ?_
      refine T.ret ?_
      exact X.ret2 rfl (RV.agg 4 rfl rfl agg25 (wc (S.getD (ix (n - m)) 0)) (by rfl) (by rfl) rfl) (RV.tmp rfl) (fun w' hw' => ⟨by have h := at_ok (S := S) (n := n) (m := m) (by omega) (by omega); rw [h.1, h.2]; rfl, hw'.sub (Sub.nil _)⟩)

theorem Put (w : World) (g : Nat) (S : List Nat) (n : Int) (hS : S.length = 1024) (hn : -4611686018427387904 ≤ n ∧ n ≤ 4611686018427387904) (hat : Ent.At w ⟨some g, 110, stkR S n⟩) (x : Nat) :
    Calls Try.prog 89 [.pointer (some ⟨g, 0, none⟩), W x].toArray w fun e w' => e = .returned (.tuple #[]) ∧ WS w [g] [(0, ⟨some g, 110, stkR (S.set (ix n) x) (n + 1)⟩)] w' := by
  refine calls_of_T [g] 22 [(0, ⟨some g, 110, stkR S n⟩)] Try.func89 rfl Try.ntmps89 (by simp) (WS.one hat) ?_
  refine T.seq ?_
  refine T.text [.l] rfl ?_
  refine J.box 3 rfl rfl (wc x) rfl rfl (fun g3 hg3 => ?_)
  refine J.end ?_
  refine X.then ?_
  refine T.seq ?_
  refine T.draw [] [(0, .g), (1, .g), (2, .g), (3, .g), (4, .q), (5, .q), (6, .q), (7, .g), (8, .g), (9, .g), (10, .l)] (by kernel_rfl) (by kernel_rfl) ?_ (by repeat (first | exact Sub.nil _ | refine Sub.cons (by first | rfl | (rw [dgs_zero]; rfl) | (rw [List.drop_length]; rfl) | (simp; done) | (congr 2; omega) | (congr 3; omega)) ?_))
  refine J.move rfl rfl ?_
  refine J.move rfl rfl ?_
  refine J.nilCheck rfl rfl ?_
  refine J.fieldAddr fld110_0 rfl rfl ?_
  refine J.load1 (k := .q) trivial 0 rfl rfl one3 (by first | rfl | with_reducible exact rowN_get0 _ _ _ (by omega) | with_reducible exact rowN_get1 _ _ _ (by omega) | with_reducible exact rowN_get1s _ _ _ _ (by omega) | exact rowN_get1 _ _ _ (by omega) | exact rowN_get1s _ _ _ _ (by omega) | exact rowN_get0 _ _ _ (by omega)) rfl ?_
  refine J.call0 (k := .q) trivial fok109 rfl rfl (fun w hw => Sb.place w _) ?_
  refine J.loadN (k := .q) trivial 3 rfl rfl agg25 (wc x) rfl rfl rfl ?_
  refine J.nilCheck rfl rfl ?_
  refine J.fieldAddr fld110_1 rfl rfl ?_
  refine J.indexArr arr58 rfl rfl (by omega) (by omega) (by first | exact Int.toNat_natCast _ | rfl) rfl ?_
  refine J.store 0 rfl rfl rfl rfl (wc x) rfl sz25 (by rw [stkR_len hS]; exact stk_fit 1 (n) (by omega)) (rowN_one _ _) (by show 0 < 4; omega) trivial (stkR (S.set (ix n) x) n) (stkR_put hS _ _) ?_
  refine J.end ?_
  refine X.then ?_
  refine T.text [.l, .l, .l, .l, .l, .l, .l, .l, .l] rfl ?_
  refine J.move rfl rfl ?_
  refine J.move rfl rfl ?_
  refine J.nilCheck rfl rfl ?_
  refine J.fieldAddr fld110_0 rfl rfl ?_
  refine J.load1 (k := .l) trivial 0 rfl rfl one3 (by first | rfl | with_reducible exact rowN_get0 _ _ _ (by omega) | with_reducible exact rowN_get1 _ _ _ (by omega) | with_reducible exact rowN_get1s _ _ _ _ (by omega) | exact rowN_get1 _ _ _ (by omega) | exact rowN_get1s _ _ _ _ (by omega) | exact rowN_get0 _ _ _ (by omega)) rfl ?_
  refine J.add rfl rfl rfl (by first | exact add_nat _ 1 (by omega) | exact i64_ok _ (by omega) | exact rfl) ?_
  refine J.nilCheck rfl rfl ?_
  refine J.fieldAddr fld110_0 rfl rfl ?_
  refine J.store 0 rfl rfl rfl rfl [.int .i64 (n + 1)] rfl sz3 (by rw [stkR_len (by rw [List.length_set]; exact hS)]; show _ + 1 ≤ _; omega) (by first | exact rowN_one _ _ | (simp; done) | (intro u hu; simp at hu; subst hu; rfl) | (intro u hu; simp at hu; rcases hu with rfl | rfl <;> rfl)) (by first | decide | exact Nat.zero_lt_succ _ | simp) trivial (stkR (S.set (ix n) x) (n + 1)) (stkR_putn (by rw [List.length_set]; exact hS)) ?_
  refine J.end ?_
  exact X.end0 rfl (fun w' hw' => ⟨rfl, hw'.only 0 0 rfl⟩)

theorem Take (w : World) (g : Nat) (S : List Nat) (n : Int) (hS : S.length = 1024) (hn : -4611686018427387904 ≤ n ∧ n ≤ 4611686018427387904) (hat : Ent.At w ⟨some g, 110, stkR S n⟩) :
    Calls Try.prog 90 [.pointer (some ⟨g, 0, none⟩)].toArray w fun e w' => e = .returned (W (S.getD (ix (n - 1)) 0)) ∧ WS w [g] [(0, ⟨some g, 110, stkR (S) (n - 1)⟩)] w' := by
  refine calls_of_T [g] 21 [(0, ⟨some g, 110, stkR S n⟩)] Try.func90 rfl Try.ntmps90 (by simp) (WS.one hat) ?_
  refine T.seq ?_
  refine T.text [.l] rfl ?_
  refine J.alloc 2 rfl zero25 [.int .u64 0, .int .u64 0, .int .u64 0, .int .u64 0] rfl rfl (fun g2 hg2 => ?_)
  refine J.end ?_
  refine X.then ?_
  refine T.seq ?_
  refine T.text [.l, .l, .l, .l, .l, .l, .l, .l, .l] rfl ?_
  refine J.move rfl rfl ?_
  refine J.move rfl rfl ?_
  refine J.nilCheck rfl rfl ?_
  refine J.fieldAddr fld110_0 rfl rfl ?_
  refine J.load1 (k := .l) trivial 0 rfl rfl one3 (by first | rfl | with_reducible exact rowN_get0 _ _ _ (by omega) | with_reducible exact rowN_get1 _ _ _ (by omega) | with_reducible exact rowN_get1s _ _ _ _ (by omega) | exact rowN_get1 _ _ _ (by omega) | exact rowN_get1s _ _ _ _ (by omega) | exact rowN_get0 _ _ _ (by omega)) rfl ?_
  refine J.sub' rfl rfl rfl (by first | exact sub_nat _ 1 (by omega) | exact i64_ok _ (by omega) | exact rfl) ?_
  refine J.nilCheck rfl rfl ?_
  refine J.fieldAddr fld110_0 rfl rfl ?_
  refine J.store 0 rfl rfl rfl rfl [.int .i64 (n - 1)] rfl sz3 (by rw [stkR_len hS]; show _ + 1 ≤ _; omega) (by first | exact rowN_one _ _ | (simp; done) | (intro u hu; simp at hu; subst hu; rfl) | (intro u hu; simp at hu; rcases hu with rfl | rfl <;> rfl)) (by first | decide | exact Nat.zero_lt_succ _ | simp) trivial (stkR S (n - 1)) (stkR_putn hS) ?_
  refine J.end ?_
  refine X.then ?_
  refine T.seq ?_
  refine T.draw [] [(0, .g), (1, .g), (2, .g), (3, .g), (4, .q), (5, .q), (6, .g), (7, .g), (8, .g), (9, .q), (10, .l)] (by kernel_rfl) (by kernel_rfl) ?_ (by repeat (first | exact Sub.nil _ | refine Sub.cons (by first | rfl | (rw [dgs_zero]; rfl) | (rw [List.drop_length]; rfl) | (simp; done) | (congr 2; omega) | (congr 3; omega)) ?_))
  refine J.move rfl rfl ?_
  refine J.move rfl rfl ?_
  refine J.nilCheck rfl rfl ?_
  refine J.fieldAddr fld110_0 rfl rfl ?_
  refine J.load1 (k := .q) trivial 0 rfl rfl one3 (by first | rfl | with_reducible exact rowN_get0 _ _ _ (by omega) | with_reducible exact rowN_get1 _ _ _ (by omega) | with_reducible exact rowN_get1s _ _ _ _ (by omega) | exact rowN_get1 _ _ _ (by omega) | exact rowN_get1s _ _ _ _ (by omega) | exact rowN_get0 _ _ _ (by omega)) rfl ?_
  refine J.call0 (k := .q) trivial fok109 rfl rfl (fun w hw => Sb.place w _) ?_
  refine J.nilCheck rfl rfl ?_
  refine J.fieldAddr fld110_1 rfl rfl ?_
  refine J.indexArr arr58 rfl rfl (by omega) (by omega) (by first | exact Int.toNat_natCast _ | rfl) rfl ?_
  refine J.loadW (k := .q) trivial 0 rfl rfl agg25 (stkR_w hS _) rfl ?_
  refine J.store 2 rfl rfl rfl rfl (wc (S.getD (ix (n - 1)) 0)) rfl sz25 (by first | decide | exact Nat.le_refl _ | exact Nat.le_of_ble_eq_true rfl | (simp [rowN]; done) | (simp [rowN]; omega)) (by first | exact rowN_one _ _ | (simp; done) | (intro u hu; simp at hu; subst hu; rfl) | (intro u hu; simp at hu; rcases hu with rfl | rfl <;> rfl)) (by first | decide | exact Nat.zero_lt_succ _ | simp) trivial (wc (S.getD (ix (n - 1)) 0)) rfl ?_
  refine J.end ?_
  refine X.then ?_
  refine T.ret ?_
  exact X.ret1 rfl (RV.agg 2 rfl rfl agg25 (wc (S.getD (ix (n - 1)) 0)) (by rfl) (by rfl) rfl) (fun w' hw' => ⟨rfl, hw'.only 0 0 rfl⟩)

theorem Turn (w : World) (g : Nat) (S : List Nat) (n : Int) (hS : S.length = 1024) (hn : -4611686018427387904 ≤ n ∧ n ≤ 4611686018427387904) (hat : Ent.At w ⟨some g, 110, stkR S n⟩) (a b : Int) :
    Calls Try.prog 93 [.pointer (some ⟨g, 0, none⟩), .int .i64 a, .int .i64 b].toArray w fun e w' => e = .returned (.tuple #[]) ∧ WS w [g] [(0, ⟨some g, 110, stkR (swp S (ix (n - a)) (ix (n - b))) (n)⟩)] w' := by
  refine calls_of_T [g] 32 [(0, ⟨some g, 110, stkR S n⟩)] Try.func93 rfl Try.ntmps93 (by simp) (WS.one hat) ?_
  refine T.seq ?_
  refine T.text [.l, .l, .l, .l, .l] rfl ?_
  refine J.move rfl rfl ?_
  refine J.move rfl rfl ?_
  refine J.call0 (k := .l) trivial fok91 rfl rfl (fun w hw => Sb.Peek w _ _ _ (by first | assumption | (rw [List.length_set]; assumption) | (simp only [List.length_set, swp_length, pushS_length, dupS_length, swapS_length, exS_length, *]; done)) (by first | assumption | omega) (hw.blkCs (k := 0) rfl) _) ?_
  refine J.alloc 6 rfl zero25 [.int .u64 0, .int .u64 0, .int .u64 0, .int .u64 0] rfl rfl (fun g6 hg6 => ?_)
  refine J.store 6 rfl rfl rfl rfl (wc (S.getD (ix (n - a)) 0)) rfl sz25 (by first | decide | exact Nat.le_refl _ | exact Nat.le_of_ble_eq_true rfl | (simp [rowN]; done) | (simp [rowN]; omega)) (by first | exact rowN_one _ _ | (simp; done) | (intro u hu; simp at hu; subst hu; rfl) | (intro u hu; simp at hu; rcases hu with rfl | rfl <;> rfl)) (by first | decide | exact Nat.zero_lt_succ _ | simp) trivial (wc (S.getD (ix (n - a)) 0)) rfl ?_
  refine J.end ?_
  refine X.then ?_
  refine T.seq ?_
  refine T.text [.l, .l, .l, .l, .l] rfl ?_
  refine J.move rfl rfl ?_
  refine J.move rfl rfl ?_
  refine J.call0 (k := .l) trivial fok91 rfl rfl (fun w hw => Sb.Peek w _ _ _ (by first | assumption | (rw [List.length_set]; assumption) | (simp only [List.length_set, swp_length, pushS_length, dupS_length, swapS_length, exS_length, *]; done)) (by first | assumption | omega) (hw.blkCs (k := 0) rfl) _) ?_
  refine J.alloc 7 rfl zero25 [.int .u64 0, .int .u64 0, .int .u64 0, .int .u64 0] rfl rfl (fun g7 hg7 => ?_)
  refine J.store 7 rfl rfl rfl rfl (wc (S.getD (ix (n - b)) 0)) rfl sz25 (by first | decide | exact Nat.le_refl _ | exact Nat.le_of_ble_eq_true rfl | (simp [rowN]; done) | (simp [rowN]; omega)) (by first | exact rowN_one _ _ | (simp; done) | (intro u hu; simp at hu; subst hu; rfl) | (intro u hu; simp at hu; rcases hu with rfl | rfl <;> rfl)) (by first | decide | exact Nat.zero_lt_succ _ | simp) trivial (wc (S.getD (ix (n - b)) 0)) rfl ?_
  refine J.end ?_
  refine X.then ?_
  refine T.seq ?_
  refine T.draw [] [(0, .g), (1, .g), (2, .g), (3, .q), (4, .q), (5, .q), (6, .g), (7, .g), (8, .g), (9, .l)] (by kernel_rfl) (by kernel_rfl) ?_ (by repeat (first | exact Sub.nil _ | refine Sub.cons (by first | rfl | (rw [dgs_zero]; rfl) | (rw [List.drop_length]; rfl) | (simp; done) | (congr 2; omega) | (congr 3; omega)) ?_))
  refine J.move rfl rfl ?_
  refine J.move rfl rfl ?_
  refine J.move rfl rfl ?_
  refine J.call0 (k := .q) trivial fok110 rfl rfl (fun w hw => Sb.number w _ _ _ (by first | assumption | (rw [List.length_set]; assumption) | (simp only [List.length_set, swp_length, pushS_length, dupS_length, swapS_length, exS_length, *]; done)) (by first | assumption | omega) (hw.blkCs (k := 0) rfl) _) ?_
  refine J.call0 (k := .q) trivial fok109 rfl rfl (fun w hw => Sb.place w _) ?_
  refine J.as 18 (.int .i64 ((n - a) % 1024)) rfl (by congr 1; omega) ?_
  refine J.loadN (k := .q) trivial 7 rfl rfl agg25 (wc (S.getD (ix (n - b)) 0)) rfl rfl rfl ?_
  refine J.nilCheck rfl rfl ?_
  refine J.fieldAddr fld110_1 rfl rfl ?_
  refine J.indexArr arr58 rfl rfl (by omega) (by omega) (by first | exact Int.toNat_natCast _ | rfl) rfl ?_
  refine J.store 0 rfl rfl rfl rfl (wc (S.getD (ix (n - b)) 0)) rfl sz25 (by rw [stkR_len hS]; exact stk_fit 1 (n - a) (by omega)) (rowN_one _ _) (by show 0 < 4; omega) trivial (stkR (S.set (ix (n - a)) (S.getD (ix (n - b)) 0)) n) (stkR_put hS _ _) ?_
  refine J.end ?_
  refine X.then ?_
  refine T.draw [] [(0, .g), (1, .g), (2, .g), (3, .q), (4, .q), (5, .q), (6, .g), (7, .g), (8, .g), (9, .l)] (by kernel_rfl) (by kernel_rfl) ?_ (by repeat (first | exact Sub.nil _ | refine Sub.cons (by first | rfl | (rw [dgs_zero]; rfl) | (rw [List.drop_length]; rfl) | (simp; done) | (congr 2; omega) | (congr 3; omega)) ?_))
  refine J.move rfl rfl ?_
  refine J.move rfl rfl ?_
  refine J.move rfl rfl ?_
  refine J.call0 (k := .q) trivial fok110 rfl rfl (fun w hw => Sb.number w _ _ _ (by first | assumption | (rw [List.length_set]; assumption) | (simp only [List.length_set, swp_length, pushS_length, dupS_length, swapS_length, exS_length, *]; done)) (by first | assumption | omega) (hw.blkCs (k := 0) rfl) _) ?_
  refine J.call0 (k := .q) trivial fok109 rfl rfl (fun w hw => Sb.place w _) ?_
  refine J.as 27 (.int .i64 ((n - b) % 1024)) rfl (by congr 1; omega) ?_
  refine J.loadN (k := .q) trivial 6 rfl rfl agg25 (wc (S.getD (ix (n - a)) 0)) rfl rfl rfl ?_
  refine J.nilCheck rfl rfl ?_
  refine J.fieldAddr fld110_1 rfl rfl ?_
  refine J.indexArr arr58 rfl rfl (by omega) (by omega) (by first | exact Int.toNat_natCast _ | rfl) rfl ?_
  refine J.store 0 rfl rfl rfl rfl (wc (S.getD (ix (n - a)) 0)) rfl sz25 (by rw [stkR_len (by rw [List.length_set]; exact hS)]; exact stk_fit 1 (n - b) (by omega)) (rowN_one _ _) (by show 0 < 4; omega) trivial (stkR (swp S (ix (n - a)) (ix (n - b))) n) (stkR_put (by rw [List.length_set]; exact hS) _ _) ?_
  refine J.end ?_
  exact X.end0 rfl (fun w' hw' => ⟨rfl, hw'.only 0 0 rfl⟩)

theorem Again (w : World) (g : Nat) (S : List Nat) (n : Int) (hS : S.length = 1024) (hn : -4611686018427387904 ≤ n ∧ n ≤ 4611686018427387904) (hat : Ent.At w ⟨some g, 110, stkR S n⟩) (m : Int) :
    Calls Try.prog 92 [.pointer (some ⟨g, 0, none⟩), .int .i64 m].toArray w fun e w' => e = .returned (.tuple #[]) ∧ WS w [g] [(0, ⟨some g, 110, stkR (S.set (ix n) (S.getD (ix (n - m)) 0)) (n + 1)⟩)] w' := by
  refine calls_of_T [g] 11 [(0, ⟨some g, 110, stkR S n⟩)] Try.func92 rfl Try.ntmps92 (by simp) (WS.one hat) ?_
  refine T.seq ?_
  refine T.text [.l, .l, .l, .l, .l] rfl ?_
  refine J.move rfl rfl ?_
  refine J.move rfl rfl ?_
  refine J.call0 (k := .l) trivial fok91 rfl rfl (fun w hw => Sb.Peek w _ _ _ (by first | assumption | (rw [List.length_set]; assumption) | (simp only [List.length_set, swp_length, pushS_length, dupS_length, swapS_length, exS_length, *]; done)) (by first | assumption | omega) (hw.blkCs (k := 0) rfl) _) ?_
  refine J.alloc 4 rfl zero25 [.int .u64 0, .int .u64 0, .int .u64 0, .int .u64 0] rfl rfl (fun g4 hg4 => ?_)
  refine J.store 4 rfl rfl rfl rfl (wc (S.getD (ix (n - m)) 0)) rfl sz25 (by first | decide | exact Nat.le_refl _ | exact Nat.le_of_ble_eq_true rfl | (simp [rowN]; done) | (simp [rowN]; omega)) (by first | exact rowN_one _ _ | (simp; done) | (intro u hu; simp at hu; subst hu; rfl) | (intro u hu; simp at hu; rcases hu with rfl | rfl <;> rfl)) (by first | decide | exact Nat.zero_lt_succ _ | simp) trivial (wc (S.getD (ix (n - m)) 0)) rfl ?_
  refine J.end ?_
  refine X.then ?_
  refine T.text [.l, .l, .l] rfl ?_
  refine J.move rfl rfl ?_
  refine J.loadN (k := .l) trivial 4 rfl rfl agg25 (wc (S.getD (ix (n - m)) 0)) rfl rfl rfl ?_
  refine J.callMut 0 rfl rfl fok89 rfl rfl (fun w hw => Sb.Put w _ _ _ (by first | assumption | (rw [List.length_set]; assumption) | (simp only [List.length_set, swp_length, pushS_length, dupS_length, swapS_length, exS_length, *]; done)) (by first | assumption | omega) (hw.live 0 _ rfl) _) ?_
  refine J.end ?_
  exact X.end0 rfl (fun w' hw' => ⟨rfl, hw'.only 0 0 rfl⟩)

theorem Push (w : World) (g : Nat) (S : List Nat) (n : Int) (hS : S.length = 1024) (hn : -4611686018427387904 ≤ n ∧ n ≤ 4611686018427387904) (hat : Ent.At w ⟨some g, 110, stkR S n⟩) (x : Nat) :
    Calls Try.prog 94 [.pointer (some ⟨g, 0, none⟩), W x].toArray w fun e w' => e = .returned (.int .i64 (pushE n : Int)) ∧ WS w [g] [(0, ⟨some g, 110, stkR (pushS S n x) (pushN n)⟩)] w' := by
  refine calls_of_T [g] 13 [(0, ⟨some g, 110, stkR S n⟩)] Try.func94 rfl Try.ntmps94 (by simp) (WS.one hat) ?_
  refine T.seq ?_
  refine T.text [.l, .l] rfl ?_
  refine J.box 3 rfl rfl (wc x) rfl rfl (fun g3 hg3 => ?_)
  refine J.assign rfl rfl ?_
  refine J.end ?_
  refine X.then ?_
  refine T.seq ?_
  refine T.seq ?_
  refine T.text [.l, .l, .l, .l, .l] rfl ?_
  refine J.move rfl rfl ?_
  refine J.nilCheck rfl rfl ?_
  refine J.fieldAddr fld110_0 rfl rfl ?_
  refine J.load1 (k := .l) trivial 0 rfl rfl one3 (by first | rfl | with_reducible exact rowN_get0 _ _ _ (by omega) | with_reducible exact rowN_get1 _ _ _ (by omega) | with_reducible exact rowN_get1s _ _ _ _ (by omega) | exact rowN_get1 _ _ _ (by omega) | exact rowN_get1s _ _ _ _ (by omega) | exact rowN_get0 _ _ _ (by omega)) rfl ?_
  refine J.geq rfl rfl rfl rfl ?_
  refine J.end ?_
  refine X.then ?_
  refine T.cond_dec rfl (fun h1 => ?_) (fun h1 => ?_)
  · skip
    refine T.seq ?_
    refine T.text [.l] rfl ?_
    refine J.assign rfl rfl ?_
    refine J.end ?_
    refine X.then ?_
    refine T.ret ?_
    refine X.then_ret ?_
    exact X.ret1 rfl (RV.tmp rfl) (fun w' hw' => ⟨by unfold pushE; rw [if_pos (by omega)]; rfl, hw'.only 0 0 (by unfold pushS pushN; rw [if_pos (by omega), if_pos (by omega)]; rfl)⟩)
  · skip
    refine T.skip ?_
    refine X.then ?_
    refine T.seq ?_
    refine T.text [.l, .l, .l] rfl ?_
    refine J.move rfl rfl ?_
    refine J.loadN (k := .l) trivial 3 rfl rfl agg25 (wc x) rfl rfl rfl ?_
    refine J.callMut 0 rfl rfl fok89 rfl rfl (fun w hw => Sb.Put w _ _ _ (by first | assumption | (rw [List.length_set]; assumption) | (simp only [List.length_set, swp_length, pushS_length, dupS_length, swapS_length, exS_length, *]; done)) (by first | assumption | omega) (hw.live 0 _ rfl) _) ?_
    refine J.end ?_
    refine X.then ?_
    refine T.seq ?_
    refine T.text [.l] rfl ?_
    refine J.assign rfl rfl ?_
    refine J.end ?_
    refine X.then ?_
    refine T.ret ?_
    exact X.ret1 rfl (RV.tmp rfl) (fun w' hw' => ⟨by unfold pushE; rw [if_neg (by omega)]; rfl, hw'.only 0 0 (by unfold pushS pushN; rw [if_neg (by omega), if_neg (by omega)]; rfl)⟩)

theorem Pop (w : World) (g : Nat) (S : List Nat) (n : Int) (hS : S.length = 1024) (hn : -4611686018427387904 ≤ n ∧ n ≤ 4611686018427387904) (hat : Ent.At w ⟨some g, 110, stkR S n⟩) :
    Calls Try.prog 95 [.pointer (some ⟨g, 0, none⟩)].toArray w fun e w' => e = .returned (.tuple #[W (popX S n), .int .i64 (popE n : Int)]) ∧ WS w [g] [(0, ⟨some g, 110, stkR (S) (popN n)⟩)] w' := by
  refine calls_of_T [g] 12 [(0, ⟨some g, 110, stkR S n⟩)] Try.func95 rfl Try.ntmps95 (by simp) (WS.one hat) ?_
  refine T.seq ?_
  refine T.text [.l, .l] rfl ?_
  refine J.alloc 2 rfl zero25 [.int .u64 0, .int .u64 0, .int .u64 0, .int .u64 0] rfl rfl (fun g2 hg2 => ?_)
  refine J.assign rfl rfl ?_
  refine J.end ?_
  refine X.then ?_
  refine T.seq ?_
  refine T.seq ?_
  refine T.text [.l, .l, .l, .l, .l] rfl ?_
  refine J.move rfl rfl ?_
  refine J.nilCheck rfl rfl ?_
  refine J.fieldAddr fld110_0 rfl rfl ?_
  refine J.load1 (k := .l) trivial 0 rfl rfl one3 (by first | rfl | with_reducible exact rowN_get0 _ _ _ (by omega) | with_reducible exact rowN_get1 _ _ _ (by omega) | with_reducible exact rowN_get1s _ _ _ _ (by omega) | exact rowN_get1 _ _ _ (by omega) | exact rowN_get1s _ _ _ _ (by omega) | exact rowN_get0 _ _ _ (by omega)) rfl ?_
  refine J.lss rfl rfl rfl rfl ?_
  refine J.end ?_
  refine X.then ?_
  refine T.cond_dec rfl (fun h1 => ?_) (fun h1 => ?_)
  · skip
    refine T.seq ?_
    refine T.text [.l, .l, .l] rfl ?_
    refine J.build rfl rfl (W 0) (fun w => by kernel_rfl) ?_
    refine J.store 2 rfl rfl rfl rfl (wc 0) rfl sz25 (by first | decide | exact Nat.le_refl _ | exact Nat.le_of_ble_eq_true rfl | (simp [rowN]; done) | (simp [rowN]; omega)) (by first | exact rowN_one _ _ | (simp; done) | (intro u hu; simp at hu; subst hu; rfl) | (intro u hu; simp at hu; rcases hu with rfl | rfl <;> rfl)) (by first | decide | exact Nat.zero_lt_succ _ | simp) trivial (wc 0) rfl ?_
    refine J.assign rfl rfl ?_
    refine J.end ?_
    refine X.then ?_
    refine T.ret ?_
    refine X.then_ret ?_
    exact X.ret2 rfl (RV.agg 2 rfl rfl agg25 (wc 0) (by rfl) (by rfl) rfl) (RV.tmp rfl) (fun w' hw' => ⟨by unfold popX popE; rw [if_pos (by omega), if_pos (by omega)]; rfl, hw'.only 0 0 (by unfold popN; rw [if_pos (by omega)]; rfl)⟩)
  · skip
    refine T.skip ?_
    refine X.then ?_
    refine T.seq ?_
    refine T.text [.l, .l, .l, .l] rfl ?_
    refine J.move rfl rfl ?_
    refine J.callMut 0 rfl rfl fok90 rfl rfl (fun w hw => Sb.Take w _ _ _ (by first | assumption | (rw [List.length_set]; assumption) | (simp only [List.length_set, swp_length, pushS_length, dupS_length, swapS_length, exS_length, *]; done)) (by first | assumption | omega) (hw.live 0 _ rfl)) ?_
    refine J.store 2 rfl rfl rfl rfl (wc (S.getD (ix (n - 1)) 0)) rfl sz25 (by first | decide | exact Nat.le_refl _ | exact Nat.le_of_ble_eq_true rfl | (simp [rowN]; done) | (simp [rowN]; omega)) (by first | exact rowN_one _ _ | (simp; done) | (intro u hu; simp at hu; subst hu; rfl) | (intro u hu; simp at hu; rcases hu with rfl | rfl <;> rfl)) (by first | decide | exact Nat.zero_lt_succ _ | simp) trivial (wc (S.getD (ix (n - 1)) 0)) rfl ?_
    refine J.assign rfl rfl ?_
    refine J.end ?_
    refine X.then ?_
    refine T.ret ?_
    exact X.ret2 rfl (RV.agg 2 rfl rfl agg25 (wc (S.getD (ix (n - 1)) 0)) (by rfl) (by rfl) rfl) (RV.tmp rfl) (fun w' hw' => ⟨by unfold popX popE; rw [if_neg (by omega), if_neg (by omega)]; rfl, hw'.only 0 0 (by unfold popN; rw [if_neg (by omega)]; rfl)⟩)

theorem Dup (w : World) (g : Nat) (S : List Nat) (n : Int) (hS : S.length = 1024) (hn : -4611686018427387904 ≤ n ∧ n ≤ 4611686018427387904) (hat : Ent.At w ⟨some g, 110, stkR S n⟩) (m : Int) (hm : -9223372036854775808 ≤ m ∧ m ≤ 9223372036854775807) :
    Calls Try.prog 97 [.pointer (some ⟨g, 0, none⟩), .int .i64 m].toArray w fun e w' => e = .returned (.int .i64 (dupE n m : Int)) ∧ WS w [g] [(0, ⟨some g, 110, stkR (dupS S n m) (dupN n m)⟩)] w' := by
  refine calls_of_T [g] 19 [(0, ⟨some g, 110, stkR S n⟩)] Try.func97 rfl Try.ntmps97 (by simp) (WS.one hat) ?_
  refine T.seq ?_
  refine T.text [.l] rfl ?_
  refine J.assign rfl rfl ?_
  refine J.end ?_
  refine X.then ?_
  refine T.seq ?_
  refine T.text [.l, .l, .l, .l, .l, .l, .l, .l, .l] rfl ?_
  refine J.move rfl rfl ?_
  refine J.move rfl rfl ?_
  refine J.call0 (k := .l) trivial fok96 rfl rfl (fun w hw => Sb.At w _ _ _ (by first | assumption | (rw [List.length_set]; assumption) | (simp only [List.length_set, swp_length, pushS_length, dupS_length, swapS_length, exS_length, *]; done)) (by first | assumption | omega) (hw.blkCs (k := 0) rfl) _ (by omega)) ?_
  refine J.move rfl rfl ?_
  refine J.extract rfl rfl rfl ?_
  refine J.extract rfl rfl rfl ?_
  refine J.alloc 5 rfl zero25 [.int .u64 0, .int .u64 0, .int .u64 0, .int .u64 0] rfl rfl (fun g5 hg5 => ?_)
  refine J.store 5 rfl rfl rfl rfl (wc (atX S n m)) rfl sz25 (by first | decide | exact Nat.le_refl _ | exact Nat.le_of_ble_eq_true rfl | (simp [rowN]; done) | (simp [rowN]; omega)) (by first | exact rowN_one _ _ | (simp; done) | (intro u hu; simp at hu; subst hu; rfl) | (intro u hu; simp at hu; rcases hu with rfl | rfl <;> rfl)) (by first | decide | exact Nat.zero_lt_succ _ | simp) trivial (wc (atX S n m)) rfl ?_
  refine J.assign rfl rfl ?_
  refine J.end ?_
  refine X.then ?_
  refine T.seq ?_
  refine T.seq ?_
  refine T.text [.l, .l] rfl ?_
  refine J.move rfl rfl ?_
  refine J.neq rfl rfl rfl rfl ?_
  refine J.end ?_
  refine X.then ?_
  refine T.cond_dec rfl (fun h1 => ?_) (fun h1 => ?_)
  · skip
    refine T.seq ?_
    refine T.text [.l, .l] rfl ?_
    refine J.move rfl rfl ?_
    refine J.assign rfl rfl ?_
    refine J.end ?_
    refine X.then ?_
    refine T.ret ?_
    refine X.then_ret ?_
    exact X.ret1 rfl (RV.tmp rfl) (fun w' hw' => ⟨by unfold dupE; rw [if_neg (by omega)], hw'.only 0 0 (by unfold dupS dupN; rw [if_neg (by omega), if_neg (by omega)]; rfl)⟩)
  · skip
    refine T.skip ?_
    refine X.then ?_
    refine T.seq ?_
    refine T.text [.l, .l, .l, .l] rfl ?_
    refine J.move rfl rfl ?_
    refine J.loadN (k := .l) trivial 5 rfl rfl agg25 (wc (atX S n m)) rfl rfl rfl ?_
    refine J.callMut 0 rfl rfl fok94 rfl rfl (fun w hw => Sb.Push w _ _ _ (by first | assumption | (rw [List.length_set]; assumption) | (simp only [List.length_set, swp_length, pushS_length, dupS_length, swapS_length, exS_length, *]; done)) (by first | assumption | omega) (hw.live 0 _ rfl) _) ?_
    refine J.assign rfl rfl ?_
    refine J.end ?_
    refine X.then ?_
    refine T.ret ?_
    exact X.ret1 rfl (RV.tmp rfl) (fun w' hw' => ⟨by unfold dupE; rw [if_pos (by omega)], hw'.only 0 0 (by unfold dupS dupN; rw [if_pos (by omega), if_pos (by omega)]; rfl)⟩)

theorem Swap (w : World) (g : Nat) (S : List Nat) (n : Int) (hS : S.length = 1024) (hn : -4611686018427387904 ≤ n ∧ n ≤ 4611686018427387904) (hat : Ent.At w ⟨some g, 110, stkR S n⟩) (m : Int) (hm : -9223372036854775808 ≤ m ∧ m ≤ 9223372036854775807) :
    Calls Try.prog 98 [.pointer (some ⟨g, 0, none⟩), .int .i64 m].toArray w fun e w' => e = .returned (.int .i64 (swapE n m : Int)) ∧ WS w [g] [(0, ⟨some g, 110, stkR (swapS S n m) (n)⟩)] w' := by
  refine calls_of_T [g] 17 [(0, ⟨some g, 110, stkR S n⟩)] Try.func98 rfl Try.ntmps98 (by simp) (WS.one hat) ?_
  refine T.seq ?_
  refine T.text [.l] rfl ?_
  refine J.assign rfl rfl ?_
  refine J.end ?_
  refine X.then ?_
  refine T.seq ?_
  refine T.seq ?_
  refine T.text [.l, .l] rfl ?_
  refine J.move rfl rfl ?_
  refine J.lss rfl rfl rfl rfl ?_
  refine J.end ?_
  refine X.then ?_
  refine T.cond_dec rfl (fun h1 => ?_) (fun h1 => ?_)
  · skip
    refine T.seq ?_
    refine T.text [.l] rfl ?_
    refine J.assign rfl rfl ?_
    refine J.end ?_
    refine X.then ?_
    refine T.ret ?_
    refine X.then_ret ?_
    exact X.ret1 rfl (RV.tmp rfl) (fun w' hw' => ⟨by rw [(sw_lo (S := S) (n := n) (m := m) (by omega)).2]; rfl, hw'.only 0 0 (by rw [(sw_lo (by omega)).1]; rfl)⟩)
  · skip
    refine T.skip ?_
    refine X.then ?_
    refine T.seq ?_
    refine T.seq ?_
    refine T.text [.l, .l, .l, .l, .l, .l] rfl ?_
    refine J.move rfl rfl ?_
    refine J.move rfl rfl ?_
    refine J.nilCheck rfl rfl ?_
    refine J.fieldAddr fld110_0 rfl rfl ?_
    refine J.load1 (k := .l) trivial 0 rfl rfl one3 (by first | rfl | with_reducible exact rowN_get0 _ _ _ (by omega) | with_reducible exact rowN_get1 _ _ _ (by omega) | with_reducible exact rowN_get1s _ _ _ _ (by omega) | exact rowN_get1 _ _ _ (by omega) | exact rowN_get1s _ _ _ _ (by omega) | exact rowN_get0 _ _ _ (by omega)) rfl ?_
    refine J.geq rfl rfl rfl rfl ?_
    refine J.end ?_
    refine X.then ?_
    refine T.cond_dec rfl (fun h2 => ?_) (fun h2 => ?_)
    · skip
      refine T.seq ?_
      refine T.text [.l] rfl ?_
      refine J.assign rfl rfl ?_
      refine J.end ?_
      refine X.then ?_
      refine T.ret ?_
      refine X.then_ret ?_
      exact X.ret1 rfl (RV.tmp rfl) (fun w' hw' => ⟨by rw [(sw_hi (S := S) (n := n) (m := m) (by omega) (by omega)).2]; rfl, hw'.only 0 0 (by rw [(sw_hi (by omega) (by omega)).1]; rfl)⟩)
    · skip
      refine T.skip ?_
      refine X.then ?_
      refine T.seq ?_
      refine T.text [.l, .l, .l, .l] rfl ?_
      refine J.move rfl rfl ?_
      refine J.move rfl rfl ?_
      refine J.add rfl rfl rfl (by first | exact add_nat _ 1 (by omega) | exact i64_ok _ (by omega) | exact rfl) ?_
      refine J.callMut 0 rfl rfl fok93 rfl rfl (fun w hw => Sb.Turn w _ _ _ (by first | assumption | (rw [List.length_set]; assumption) | (simp only [List.length_set, swp_length, pushS_length, dupS_length, swapS_length, exS_length, *]; done)) (by first | assumption | omega) (hw.live 0 _ rfl) _ _) ?_
      refine J.end ?_
      refine X.then ?_
      refine T.seq ?_
      refine T.text [.l] rfl ?_
      refine J.assign rfl rfl ?_
      refine J.end ?_
      refine X.then ?_
      refine T.ret ?_
      exact X.ret1 rfl (RV.tmp rfl) (fun w' hw' => ⟨by rw [(sw_ok (S := S) (n := n) (m := m) (by omega) (by omega)).2]; rfl, hw'.only 0 0 (by rw [(sw_ok (by omega) (by omega)).1]; rfl)⟩)

theorem Exchange (w : World) (g : Nat) (S : List Nat) (n : Int) (hS : S.length = 1024) (hn : -4611686018427387904 ≤ n ∧ n ≤ 4611686018427387904) (hat : Ent.At w ⟨some g, 110, stkR S n⟩) (m : Int) (hm : -9223372036854775808 ≤ m ∧ m ≤ 9223372036854775807) (q : Int) (hq : -9223372036854775808 ≤ q ∧ q ≤ 9223372036854775807) :
    Calls Try.prog 99 [.pointer (some ⟨g, 0, none⟩), .int .i64 m, .int .i64 q].toArray w fun e w' => e = .returned (.int .i64 (exE n m q : Int)) ∧ WS w [g] [(0, ⟨some g, 110, stkR (exS S n m q) (n)⟩)] w' := by
  refine calls_of_T [g] 45 [(0, ⟨some g, 110, stkR S n⟩)] Try.func99 rfl Try.ntmps99 (by simp) (WS.one hat) ?_
  refine T.seq ?_
  refine T.text [.l] rfl ?_
  refine J.assign rfl rfl ?_
  refine J.end ?_
  refine X.then ?_
  refine T.seq ?_
  refine T.seq ?_
  refine T.text [.l, .l, .l, .l, .l, .l] rfl ?_
  refine J.move rfl rfl ?_
  refine J.lss rfl rfl rfl rfl ?_
  refine J.move rfl rfl ?_
  refine J.split 9 rfl (fun h1 => ?_) (fun h1 => ?_)
  · skip
    refine J.no rfl rfl rfl rfl ?_
    refine J.no rfl rfl rfl rfl ?_
    refine J.pick_t rfl rfl rfl ?_
    refine J.end ?_
    refine X.then ?_
    refine T.cond_true rfl ?_
    refine T.seq ?_
    refine T.text [.l] rfl ?_
    refine J.assign rfl rfl ?_
    refine J.end ?_
    refine X.then ?_
    refine T.ret ?_
    refine X.then_ret ?_
    exact X.ret1 rfl (RV.tmp rfl) (fun w' hw' => by
          first
          | exact ⟨by rw [(ex_lo (S := S) (n := n) (m := m) (q := q) (by omega)).2]; rfl, hw'.only 0 0 (by rw [(ex_lo (by omega)).1]; rfl)⟩
          | exact ⟨by rw [(ex_hi (S := S) (n := n) (m := m) (q := q) (by omega) (by omega)).2]; rfl, hw'.only 0 0 (by rw [(ex_hi (by omega) (by omega)).1]; rfl)⟩
          | exact ⟨by rw [(ex_ok (S := S) (n := n) (m := m) (q := q) (by omega) (by omega)).2]; rfl, hw'.only 0 0 (by rw [(ex_ok (by omega) (by omega)).1]; rfl)⟩)
  · skip
    refine J.yes rfl rfl ?_
    refine J.move rfl rfl ?_
    refine J.yes rfl rfl ?_
    refine J.lss rfl rfl rfl rfl ?_
    refine J.pick_f rfl rfl rfl ?_
    refine J.end ?_
    refine X.then ?_
    refine T.cond_dec rfl (fun h2 => ?_) (fun h2 => ?_)
    · skip
      refine T.seq ?_
      refine T.text [.l] rfl ?_
      refine J.assign rfl rfl ?_
      refine J.end ?_
      refine X.then ?_
      refine T.ret ?_
      refine X.then_ret ?_
      exact X.ret1 rfl (RV.tmp rfl) (fun w' hw' => by
            first
            | exact ⟨by rw [(ex_lo (S := S) (n := n) (m := m) (q := q) (by omega)).2]; rfl, hw'.only 0 0 (by rw [(ex_lo (by omega)).1]; rfl)⟩
            | exact ⟨by rw [(ex_hi (S := S) (n := n) (m := m) (q := q) (by omega) (by omega)).2]; rfl, hw'.only 0 0 (by rw [(ex_hi (by omega) (by omega)).1]; rfl)⟩
            | exact ⟨by rw [(ex_ok (S := S) (n := n) (m := m) (q := q) (by omega) (by omega)).2]; rfl, hw'.only 0 0 (by rw [(ex_ok (by omega) (by omega)).1]; rfl)⟩)
    · skip
      refine T.skip ?_
      refine X.then ?_
      refine T.seq ?_
      refine T.seq ?_
      refine T.text [.l, .l, .l, .l, .l, .l, .l, .l, .l, .l, .l, .l, .l, .l, .l, .l, .l, .l, .l, .l, .l, .l, .l, .l] rfl ?_
      refine J.move rfl rfl ?_
      refine J.move rfl rfl ?_
      refine J.nilCheck rfl rfl ?_
      refine J.fieldAddr fld110_0 rfl rfl ?_
      refine J.load1 (k := .l) trivial 0 rfl rfl one3 (by first | rfl | with_reducible exact rowN_get0 _ _ _ (by omega) | with_reducible exact rowN_get1 _ _ _ (by omega) | with_reducible exact rowN_get1s _ _ _ _ (by omega) | exact rowN_get1 _ _ _ (by omega) | exact rowN_get1s _ _ _ _ (by omega) | exact rowN_get0 _ _ _ (by omega)) rfl ?_
      refine J.geq rfl rfl rfl rfl ?_
      refine J.move rfl rfl ?_
      refine J.split 19 rfl (fun h3 => ?_) (fun h3 => ?_)
      · skip
        refine J.no rfl rfl rfl rfl ?_
        refine J.no rfl rfl rfl rfl ?_
        refine J.no rfl rfl rfl rfl ?_
        refine J.no rfl rfl rfl rfl ?_
        refine J.no rfl rfl rfl rfl ?_
        refine J.no rfl rfl rfl rfl ?_
        refine J.pick_t rfl rfl rfl ?_
        refine J.move rfl rfl ?_
        refine J.no rfl rfl rfl rfl ?_
        refine J.no rfl rfl rfl rfl ?_
        refine J.no rfl rfl rfl rfl ?_
        refine J.no rfl rfl rfl rfl ?_
        refine J.no rfl rfl rfl rfl ?_
        refine J.no rfl rfl rfl rfl ?_
        refine J.no rfl rfl rfl rfl ?_
        refine J.no rfl rfl rfl rfl ?_
        refine J.pick_t rfl rfl rfl ?_
        refine J.end ?_
        refine X.then ?_
        refine T.cond_true rfl ?_
        refine T.seq ?_
        refine T.text [.l] rfl ?_
        refine J.assign rfl rfl ?_
        refine J.end ?_
        refine X.then ?_
        refine T.ret ?_
        refine X.then_ret ?_
        exact X.ret1 rfl (RV.tmp rfl) (fun w' hw' => by
              first
              | exact ⟨by rw [(ex_lo (S := S) (n := n) (m := m) (q := q) (by omega)).2]; rfl, hw'.only 0 0 (by rw [(ex_lo (by omega)).1]; rfl)⟩
              | exact ⟨by rw [(ex_hi (S := S) (n := n) (m := m) (q := q) (by omega) (by omega)).2]; rfl, hw'.only 0 0 (by rw [(ex_hi (by omega) (by omega)).1]; rfl)⟩
              | exact ⟨by rw [(ex_ok (S := S) (n := n) (m := m) (q := q) (by omega) (by omega)).2]; rfl, hw'.only 0 0 (by rw [(ex_ok (by omega) (by omega)).1]; rfl)⟩)
      · skip
        refine J.yes rfl rfl ?_
        refine J.move rfl rfl ?_
        refine J.yes rfl rfl ?_
        refine J.move rfl rfl ?_
        refine J.yes rfl rfl ?_
        refine J.nilCheck rfl rfl ?_
        refine J.yes rfl rfl ?_
        refine J.fieldAddr fld110_0 rfl rfl ?_
        refine J.yes rfl rfl ?_
        refine J.load1 (k := .l) trivial 0 rfl rfl one3 (by first | rfl | with_reducible exact rowN_get0 _ _ _ (by omega) | with_reducible exact rowN_get1 _ _ _ (by omega) | with_reducible exact rowN_get1s _ _ _ _ (by omega) | exact rowN_get1 _ _ _ (by omega) | exact rowN_get1s _ _ _ _ (by omega) | exact rowN_get0 _ _ _ (by omega)) rfl ?_
        refine J.yes rfl rfl ?_
        refine J.geq rfl rfl rfl rfl ?_
        refine J.pick_f rfl rfl rfl ?_
        refine J.move rfl rfl ?_
        refine J.split 27 rfl (fun h4 => ?_) (fun h4 => ?_)
        · skip
          refine J.no rfl rfl rfl rfl ?_
          refine J.no rfl rfl rfl rfl ?_
          refine J.no rfl rfl rfl rfl ?_
          refine J.no rfl rfl rfl rfl ?_
          refine J.no rfl rfl rfl rfl ?_
          refine J.no rfl rfl rfl rfl ?_
          refine J.no rfl rfl rfl rfl ?_
          refine J.no rfl rfl rfl rfl ?_
          refine J.pick_t rfl rfl rfl ?_
          refine J.end ?_
          refine X.then ?_
          refine T.cond_true rfl ?_
          refine T.seq ?_
          refine T.text [.l] rfl ?_
          refine J.assign rfl rfl ?_
          refine J.end ?_
          refine X.then ?_
          refine T.ret ?_
          refine X.then_ret ?_
          exact X.ret1 rfl (RV.tmp rfl) (fun w' hw' => by
                first
                | exact ⟨by rw [(ex_lo (S := S) (n := n) (m := m) (q := q) (by omega)).2]; rfl, hw'.only 0 0 (by rw [(ex_lo (by omega)).1]; rfl)⟩
                | exact ⟨by rw [(ex_hi (S := S) (n := n) (m := m) (q := q) (by omega) (by omega)).2]; rfl, hw'.only 0 0 (by rw [(ex_hi (by omega) (by omega)).1]; rfl)⟩
                | exact ⟨by rw [(ex_ok (S := S) (n := n) (m := m) (q := q) (by omega) (by omega)).2]; rfl, hw'.only 0 0 (by rw [(ex_ok (by omega) (by omega)).1]; rfl)⟩)
        · skip
          refine J.yes rfl rfl ?_
          refine J.move rfl rfl ?_
          refine J.yes rfl rfl ?_
          refine J.move rfl rfl ?_
          refine J.yes rfl rfl ?_
          refine J.add rfl rfl rfl (by first | exact add_nat _ _ (by omega) | exact i64_ok _ (by omega) | exact rfl) ?_
          refine J.yes rfl rfl ?_
          refine J.move rfl rfl ?_
          refine J.yes rfl rfl ?_
          refine J.nilCheck rfl rfl ?_
          refine J.yes rfl rfl ?_
          refine J.fieldAddr fld110_0 rfl rfl ?_
          refine J.yes rfl rfl ?_
          refine J.load1 (k := .l) trivial 0 rfl rfl one3 (by first | rfl | with_reducible exact rowN_get0 _ _ _ (by omega) | with_reducible exact rowN_get1 _ _ _ (by omega) | with_reducible exact rowN_get1s _ _ _ _ (by omega) | exact rowN_get1 _ _ _ (by omega) | exact rowN_get1s _ _ _ _ (by omega) | exact rowN_get0 _ _ _ (by omega)) rfl ?_
          refine J.yes rfl rfl ?_
          refine J.geq rfl rfl rfl rfl ?_
          refine J.pick_f rfl rfl rfl ?_
          refine J.end ?_
          refine X.then ?_
          refine T.cond_dec rfl (fun h5 => ?_) (fun h5 => ?_)
          · skip
            refine T.seq ?_
            refine T.text [.l] rfl ?_
            refine J.assign rfl rfl ?_
            refine J.end ?_
            refine X.then ?_
            refine T.ret ?_
            refine X.then_ret ?_
            exact X.ret1 rfl (RV.tmp rfl) (fun w' hw' => by
                  first
                  | exact ⟨by rw [(ex_lo (S := S) (n := n) (m := m) (q := q) (by omega)).2]; rfl, hw'.only 0 0 (by rw [(ex_lo (by omega)).1]; rfl)⟩
                  | exact ⟨by rw [(ex_hi (S := S) (n := n) (m := m) (q := q) (by omega) (by omega)).2]; rfl, hw'.only 0 0 (by rw [(ex_hi (by omega) (by omega)).1]; rfl)⟩
                  | exact ⟨by rw [(ex_ok (S := S) (n := n) (m := m) (q := q) (by omega) (by omega)).2]; rfl, hw'.only 0 0 (by rw [(ex_ok (by omega) (by omega)).1]; rfl)⟩)
          · skip
            refine T.skip ?_
            refine X.then ?_
            refine T.seq ?_
            refine T.text [.l, .l, .l, .l, .l, .l, .l, .l] rfl ?_
            refine J.move rfl rfl ?_
            refine J.move rfl rfl ?_
            refine J.add rfl rfl rfl (by first | exact add_nat _ 1 (by omega) | exact i64_ok _ (by omega) | exact rfl) ?_
            refine J.move rfl rfl ?_
            refine J.move rfl rfl ?_
            refine J.add rfl rfl rfl (by first | exact add_nat _ _ (by omega) | exact i64_ok _ (by omega) | exact rfl) ?_
            refine J.add rfl rfl rfl (by first | exact add_nat _ 1 (by omega) | exact i64_ok _ (by omega) | exact rfl) ?_
            refine J.callMut 0 rfl rfl fok93 rfl rfl (fun w hw => Sb.Turn w _ _ _ (by first | assumption | (rw [List.length_set]; assumption) | (simp only [List.length_set, swp_length, pushS_length, dupS_length, swapS_length, exS_length, *]; done)) (by first | assumption | omega) (hw.live 0 _ rfl) _ _) ?_
            refine J.end ?_
            refine X.then ?_
            refine T.seq ?_
            refine T.text [.l] rfl ?_
            refine J.assign rfl rfl ?_
            refine J.end ?_
            refine X.then ?_
            refine T.ret ?_
            exact X.ret1 rfl (RV.tmp rfl) (fun w' hw' => by
                  first
                  | exact ⟨by rw [(ex_lo (S := S) (n := n) (m := m) (q := q) (by omega)).2]; rfl, hw'.only 0 0 (by rw [(ex_lo (by omega)).1]; rfl)⟩
                  | exact ⟨by rw [(ex_hi (S := S) (n := n) (m := m) (q := q) (by omega) (by omega)).2]; rfl, hw'.only 0 0 (by rw [(ex_hi (by omega) (by omega)).1]; rfl)⟩
                  | exact ⟨by rw [(ex_ok (S := S) (n := n) (m := m) (q := q) (by omega) (by omega)).2]; rfl, hw'.only 0 0 (by rw [(ex_ok (by omega) (by omega)).1]; rfl)⟩)

theorem Words (w : World) (g : Nat) (S : List Nat) (n : Int) (hS : S.length = 1024) (hn : -4611686018427387904 ≤ n ∧ n ≤ 4611686018427387904) (hcS : Cs w (some ⟨g, 0, none⟩) (stkR S n)) :
    Calls Try.prog 100 [.pointer (some ⟨g, 0, none⟩)].toArray w fun e w' => RowsWPost w 25 (fun zs => zs = wordsS S n) e w' := by
  have hwl := wordsS_length S n
  refine calls_of_T [] 36 [] Try.func100 rfl Try.ntmps100 (by simp) (WS.refl _ _) ?_
  refine T.seq ?_
  refine T.text [.l] rfl ?_
  refine J.assign rfl rfl ?_
  refine J.end ?_
  refine X.then ?_
  refine T.seq ?_
  refine T.text [.l] rfl ?_
  refine J.assign rfl rfl ?_
  refine J.end ?_
  refine X.then ?_
  refine T.seq ?_
  refine T.text [.l] rfl ?_
  refine J.assign rfl rfl ?_
  refine J.end ?_
  refine X.then ?_
  refine T.seq ?_
  refine T.seq ?_
  refine T.text [.l, .l, .l, .l, .l] rfl ?_
  refine J.move rfl rfl ?_
  refine J.nilCheck rfl rfl ?_
  refine J.fieldAddr fld110_0 rfl rfl ?_
  refine J.loadB1 (k := .l) trivial hcS (off_nil _) rfl one3 rfl rfl ?_
  refine J.gtr rfl rfl rfl rfl ?_
  refine J.end ?_
  refine X.then ?_
  refine T.cond_dec rfl (fun h1 => ?_) (fun h1 => ?_)
  · skip
    refine T.text [.l, .l, .l, .l, .l, .l] rfl ?_
    refine J.move rfl rfl ?_
    refine J.nilCheck rfl rfl ?_
    refine J.fieldAddr fld110_0 rfl rfl ?_
    refine J.loadB1 (k := .l) trivial hcS (off_nil _) rfl one3 rfl rfl ?_
    refine J.sub' rfl rfl rfl (by first | exact sub_nat _ 1024 (by omega) | exact i64_ok _ (by omega) | exact rfl) ?_
    refine J.assign rfl rfl ?_
    refine J.end ?_
    refine X.then ?_
    refine T.seq ?_
    refine T.seq ?_
    refine T.text [.l, .l] rfl ?_
    refine J.move rfl rfl ?_
    refine J.as 16 (.int .i64 (if n > 1024 then n - 1024 else 0)) rfl (by congr 1; split <;> omega) ?_
    refine J.assign rfl rfl ?_
    refine J.end ?_
    refine X.then ?_
    refine T.block ?_
    refine T.addNil 3 25 ?_
    refine T.as 5 (.int .i64 ((if n > 1024 then n - 1024 else 0) + ((0 : Nat) : Int))) rfl (by congr 1; omega) ?_
    refine T.loop (ι := Nat × RowIx) (fun ((k, r) : Nat × RowIx) => k ≤ (min (max n 0) 1024).toNat ∧ r.Ok 4 ((wordsS S n).take k).length) (fun ((k, r) : Nat × RowIx) => [(0, .pointer (some ⟨g, 0, none⟩)), (2, .slice none 0 0), (6, .pointer (some ⟨g, 0, none⟩)), (7, .pointer (some ⟨g, 0, none⟩)), (11, .pointer (some ⟨g, 0, none⟩)), (12, .pointer (some ⟨g, 0, none⟩)), (16, .int .i64 (if n > 1024 then n - 1024 else 0)), (3, r.val ((wordsS S n).take k).length), (5, .int .i64 ((if n > 1024 then n - 1024 else 0) + (k : Int)))]) (fun ((k, r) : Nat × RowIx) => [(3, r.ent 25 (rowW ((wordsS S n).take k)))]) (fun ((k, r) : Nat × RowIx) => (min (max n 0) 1024).toNat - k) ⟨0, RowIx.nil⟩ ⟨Nat.zero_le _, RowIx.nil_ok 4⟩ (by repeat (first | exact Sub.nil _ | refine Sub.cons (by first | rfl | (congr 2; omega)| (rw [dgs_zero]; rfl) | (rw [List.drop_length]; rfl) | (simp; done) | (congr 2; omega) | (congr 3; omega)) ?_)) (by repeat (first | exact Sub.nil _ | refine Sub.cons (by first | rfl | (congr 2; omega)| (rw [dgs_zero]; rfl) | (rw [List.drop_length]; rfl) | (simp; done) | (congr 2; omega) | (congr 3; omega)) ?_)) ?_
    rintro ⟨k, r⟩ ⟨hk, hr⟩
    try dsimp only at *
    have hlt : ((wordsS S n).take k).length = k := by rw [List.length_take]; omega
    refine T.seq ?_
    refine T.seq ?_
    refine T.text [.l, .l, .l, .l, .l, .l] rfl ?_
    refine J.move rfl rfl ?_
    refine J.move rfl rfl ?_
    refine J.nilCheck rfl rfl ?_
    refine J.fieldAddr fld110_0 rfl rfl ?_
    refine J.loadB1 (k := .l) trivial hcS (off_nil _) rfl one3 rfl rfl ?_
    refine J.lss rfl rfl rfl rfl ?_
    refine J.end ?_
    refine X.then ?_
    refine T.cond_dec rfl (fun h2 => ?_) (fun h2 => ?_)
    · have hkc : k < (min (max n 0) 1024).toNat := by split at h2 <;> omega
      have hfb : -4611686018427387904 ≤ (if n > 1024 then n - 1024 else 0) ∧ (if n > 1024 then n - 1024 else 0) ≤ 4611686018427387904 := by split <;> omega
      refine T.skip ?_
      refine X.then ?_
      refine T.seq ?_
      refine T.block ?_
      refine T.draw [] [(0, .g), (1, .g), (2, .g), (3, .q), (4, .g), (5, .g), (6, .g), (7, .q), (8, .l), (9, .l), (10, .g)] (by kernel_rfl) (by kernel_rfl) ?_ (by repeat (first | exact Sub.nil _ | refine Sub.cons (by first | rfl | (congr 2; omega)| (rw [dgs_zero]; rfl) | (rw [List.drop_length]; rfl) | (simp; done) | (congr 2; omega) | (congr 3; omega)) ?_))
      refine J.move rfl rfl ?_
      refine J.move rfl rfl ?_
      refine J.move rfl rfl ?_
      refine J.call0 (k := .q) trivial fok109 rfl rfl (fun w hw => Sb.place w _) ?_
      refine J.nilCheck rfl rfl ?_
      refine J.fieldAddr fld110_1 rfl rfl ?_
      refine J.indexArr arr58 rfl rfl (by omega) (by omega) (by first | exact Int.toNat_natCast _ | rfl) rfl ?_
      refine J.loadBW (k := .q) trivial hcS (off_nil _) rfl agg25 (stkR_w hS _) rfl ?_
      refine J.as 32 (W ((wordsS S n).getD k 0)) rfl (by rw [wordsS_get _ _ _ (by omega)]) ?_
      refine J.lit1 33 rfl Try.underlying32 el25 (by decide) rfl (wc ((wordsS S n).getD k 0)) rfl rfl rfl (fun g33 hg33 => ?_)
      have hts := take_succ_getD (wordsS S n) k (by omega)
      refine J.append 3 rfl Try.underlying32 el25 rfl hr (by rw [rowW_length]) rfl rfl rfl (fun w hw => (hw.blkCs (k := 33) rfl)) (rowN_one _ _) (by omega) (by unfold maxLen; omega) rfl ((wordsS S n).take (k + 1)).length (by rw [hts]; simp) (rowW ((wordsS S n).take (k + 1))) (by rw [hts, rowW_append, rowW_one']) (fun r34 hr34 => ?_)
      refine J.assign rfl rfl ?_
      refine J.end ?_
      refine X.inBlock (X.then ?_)
      refine T.text [.l, .l, .l] rfl ?_
      refine J.move rfl rfl ?_
      refine J.add rfl rfl rfl (by first | exact add_nat _ 1 (by omega) | exact i64_ok _ (by omega) | exact rfl) ?_
      refine J.as 24 (.int .i64 ((if n > 1024 then n - 1024 else 0) + ((k + 1 : Nat) : Int))) rfl (by congr 1; omega) ?_
      refine J.assign rfl rfl ?_
      refine J.end ?_
      exact X.round ⟨(k + 1), r34⟩ ⟨by omega, hr34⟩ (by first | omega | (dsimp only; omega)) (by repeat (first | exact Sub.nil _ | refine Sub.cons (by first | rfl | (congr 2; omega)| (rw [dgs_zero]; rfl) | (rw [List.drop_length]; rfl) | (simp; done) | (congr 2; omega) | (congr 3; omega)) ?_)) (by repeat (first | exact Sub.nil _ | refine Sub.cons (by first | rfl | (congr 2; omega)| (rw [dgs_zero]; rfl) | (rw [List.drop_length]; rfl) | (simp; done) | (congr 2; omega) | (congr 3; omega)) ?_))
    · have hkd : k = (min (max n 0) 1024).toNat := by split at h2 <;> omega
      refine T.exit ?_
      refine X.then_exit (X.then_exit (X.inBlock_eq (X.then ?_)))
      refine T.seq ?_
      refine T.text [.l, .l] rfl ?_
      refine J.move rfl rfl ?_
      refine J.assign rfl rfl ?_
      refine J.end ?_
      refine X.then ?_
      refine T.ret ?_
      exact X.ret1 rfl (RV.tmp rfl) (fun w' hw' => RowsWPost.mk' ((wordsS S n).take k) (List.take_of_length_le (by omega)) r hr rfl hw' 3 rfl)
  · skip
    refine T.skip ?_
    refine X.then ?_
    refine T.seq ?_
    refine T.seq ?_
    refine T.text [.l, .l] rfl ?_
    refine J.move rfl rfl ?_
    refine J.as 16 (.int .i64 (if n > 1024 then n - 1024 else 0)) rfl (by congr 1; split <;> omega) ?_
    refine J.assign rfl rfl ?_
    refine J.end ?_
    refine X.then ?_
    refine T.block ?_
    refine T.addNil 3 25 ?_
    refine T.as 5 (.int .i64 ((if n > 1024 then n - 1024 else 0) + ((0 : Nat) : Int))) rfl (by congr 1; omega) ?_
    refine T.loop (ι := Nat × RowIx) (fun ((k, r) : Nat × RowIx) => k ≤ (min (max n 0) 1024).toNat ∧ r.Ok 4 ((wordsS S n).take k).length) (fun ((k, r) : Nat × RowIx) => [(0, .pointer (some ⟨g, 0, none⟩)), (2, .slice none 0 0), (4, .int .i64 0), (6, .pointer (some ⟨g, 0, none⟩)), (7, .pointer (some ⟨g, 0, none⟩)), (16, .int .i64 (if n > 1024 then n - 1024 else 0)), (3, r.val ((wordsS S n).take k).length), (5, .int .i64 ((if n > 1024 then n - 1024 else 0) + (k : Int)))]) (fun ((k, r) : Nat × RowIx) => [(3, r.ent 25 (rowW ((wordsS S n).take k)))]) (fun ((k, r) : Nat × RowIx) => (min (max n 0) 1024).toNat - k) ⟨0, RowIx.nil⟩ ⟨Nat.zero_le _, RowIx.nil_ok 4⟩ (by repeat (first | exact Sub.nil _ | refine Sub.cons (by first | rfl | (congr 2; omega)| (rw [dgs_zero]; rfl) | (rw [List.drop_length]; rfl) | (simp; done) | (congr 2; omega) | (congr 3; omega)) ?_)) (by repeat (first | exact Sub.nil _ | refine Sub.cons (by first | rfl | (congr 2; omega)| (rw [dgs_zero]; rfl) | (rw [List.drop_length]; rfl) | (simp; done) | (congr 2; omega) | (congr 3; omega)) ?_)) ?_
    rintro ⟨k, r⟩ ⟨hk, hr⟩
    try dsimp only at *
    have hlt : ((wordsS S n).take k).length = k := by rw [List.length_take]; omega
    refine T.seq ?_
    refine T.seq ?_
    refine T.text [.l, .l, .l, .l, .l, .l] rfl ?_
    refine J.move rfl rfl ?_
    refine J.move rfl rfl ?_
    refine J.nilCheck rfl rfl ?_
    refine J.fieldAddr fld110_0 rfl rfl ?_
    refine J.loadB1 (k := .l) trivial hcS (off_nil _) rfl one3 rfl rfl ?_
    refine J.lss rfl rfl rfl rfl ?_
    refine J.end ?_
    refine X.then ?_
    refine T.cond_dec rfl (fun h3 => ?_) (fun h3 => ?_)
    · have hkc : k < (min (max n 0) 1024).toNat := by split at h3 <;> omega
      have hfb : -4611686018427387904 ≤ (if n > 1024 then n - 1024 else 0) ∧ (if n > 1024 then n - 1024 else 0) ≤ 4611686018427387904 := by split <;> omega
      refine T.skip ?_
      refine X.then ?_
      refine T.seq ?_
      refine T.block ?_
      refine T.draw [] [(0, .g), (1, .g), (2, .g), (3, .q), (4, .g), (5, .g), (6, .g), (7, .q), (8, .l), (9, .l), (10, .g)] (by kernel_rfl) (by kernel_rfl) ?_ (by repeat (first | exact Sub.nil _ | refine Sub.cons (by first | rfl | (congr 2; omega)| (rw [dgs_zero]; rfl) | (rw [List.drop_length]; rfl) | (simp; done) | (congr 2; omega) | (congr 3; omega)) ?_))
      refine J.move rfl rfl ?_
      refine J.move rfl rfl ?_
      refine J.move rfl rfl ?_
      refine J.call0 (k := .q) trivial fok109 rfl rfl (fun w hw => Sb.place w _) ?_
      refine J.nilCheck rfl rfl ?_
      refine J.fieldAddr fld110_1 rfl rfl ?_
      refine J.indexArr arr58 rfl rfl (by omega) (by omega) (by first | exact Int.toNat_natCast _ | rfl) rfl ?_
      refine J.loadBW (k := .q) trivial hcS (off_nil _) rfl agg25 (stkR_w hS _) rfl ?_
      refine J.as 32 (W ((wordsS S n).getD k 0)) rfl (by rw [wordsS_get _ _ _ (by omega)]) ?_
      refine J.lit1 33 rfl Try.underlying32 el25 (by decide) rfl (wc ((wordsS S n).getD k 0)) rfl rfl rfl (fun g33 hg33 => ?_)
      have hts := take_succ_getD (wordsS S n) k (by omega)
      refine J.append 3 rfl Try.underlying32 el25 rfl hr (by rw [rowW_length]) rfl rfl rfl (fun w hw => (hw.blkCs (k := 33) rfl)) (rowN_one _ _) (by omega) (by unfold maxLen; omega) rfl ((wordsS S n).take (k + 1)).length (by rw [hts]; simp) (rowW ((wordsS S n).take (k + 1))) (by rw [hts, rowW_append, rowW_one']) (fun r34 hr34 => ?_)
      refine J.assign rfl rfl ?_
      refine J.end ?_
      refine X.inBlock (X.then ?_)
      refine T.text [.l, .l, .l] rfl ?_
      refine J.move rfl rfl ?_
      refine J.add rfl rfl rfl (by first | exact add_nat _ 1 (by omega) | exact i64_ok _ (by omega) | exact rfl) ?_
      refine J.as 24 (.int .i64 ((if n > 1024 then n - 1024 else 0) + ((k + 1 : Nat) : Int))) rfl (by congr 1; omega) ?_
      refine J.assign rfl rfl ?_
      refine J.end ?_
      exact X.round ⟨(k + 1), r34⟩ ⟨by omega, hr34⟩ (by first | omega | (dsimp only; omega)) (by repeat (first | exact Sub.nil _ | refine Sub.cons (by first | rfl | (congr 2; omega)| (rw [dgs_zero]; rfl) | (rw [List.drop_length]; rfl) | (simp; done) | (congr 2; omega) | (congr 3; omega)) ?_)) (by repeat (first | exact Sub.nil _ | refine Sub.cons (by first | rfl | (congr 2; omega)| (rw [dgs_zero]; rfl) | (rw [List.drop_length]; rfl) | (simp; done) | (congr 2; omega) | (congr 3; omega)) ?_))
    · have hkd : k = (min (max n 0) 1024).toNat := by split at h3 <;> omega
      refine T.exit ?_
      refine X.then_exit (X.then_exit (X.inBlock_eq (X.then ?_)))
      refine T.seq ?_
      refine T.text [.l, .l] rfl ?_
      refine J.move rfl rfl ?_
      refine J.assign rfl rfl ?_
      refine J.end ?_
      refine X.then ?_
      refine T.ret ?_
      exact X.ret1 rfl (RV.tmp rfl) (fun w' hw' => RowsWPost.mk' ((wordsS S n).take k) (List.take_of_length_le (by omega)) r hr rfl hw' 3 rfl)
end Go.Proofs.Ytpkjbeebhdgleaa.Sb
