/-
  Walks, printed by gen.py: what each function hands back, said of numbers.
  Conditions: those that each theorem bears.
-/
import Derived.Test.YtpkjbeebhdgleaaChecked
import Derived.Test.YtpkjbeebhdgleaaFil
set_option linter.unusedVariables false
set_option maxRecDepth 20000
namespace Go.Proofs.Ytpkjbeebhdgleaa.Lc
open Go Go.Fw

theorem fok26 : FnOk Try.prog 26 := FnOk.mk' Try.func26 (by kernel_rfl) rfl
theorem fok21 : FnOk Try.prog 21 := FnOk.mk' Try.func21 (by kernel_rfl) rfl
theorem zero25 : ZeroT Try.prog 25 (.agg ([.int .u64 0, .int .u64 0, .int .u64 0, .int .u64 0]).toArray) := (by unfold ZeroT; kernel_rfl)
theorem sz25 : SizeT Try.prog 25 4 := (by unfold SizeT; kernel_rfl)
theorem agg25 : AggT Try.prog 25 4 := ⟨⟨_, Try.underlying25, rfl⟩, by kernel_rfl⟩
theorem sl32 : SlT Try.prog 32 25 4 := ⟨Try.underlying32, sz25⟩
theorem sz23 : SizeT Try.prog 23 1 := (by unfold SizeT; kernel_rfl)
theorem arr25 : ArrT Try.prog 25 4 23 1 := ⟨Try.underlying25, sz23⟩
theorem one23 : OneT Try.prog 23 := ⟨⟨_, Try.underlying23, rfl⟩, by kernel_rfl⟩
theorem eqw25 : EqT Try.prog 25 := ⟨⟨23, arr25, one23, Try.underlying23⟩, by kernel_rfl⟩
theorem fok27 : FnOk Try.prog 27 := FnOk.mk' Try.func27 (by kernel_rfl) rfl
theorem fok28 : FnOk Try.prog 28 := FnOk.mk' Try.func28 (by kernel_rfl) rfl
theorem fok29 : FnOk Try.prog 29 := FnOk.mk' Try.func29 (by kernel_rfl) rfl
theorem fok23 : FnOk Try.prog 23 := FnOk.mk' Try.func23 (by kernel_rfl) rfl
theorem fok22 : FnOk Try.prog 22 := FnOk.mk' Try.func22 (by kernel_rfl) rfl
theorem fok30 : FnOk Try.prog 30 := FnOk.mk' Try.func30 (by kernel_rfl) rfl
theorem fok24 : FnOk Try.prog 24 := FnOk.mk' Try.func24 (by kernel_rfl) rfl
theorem fok25 : FnOk Try.prog 25 := FnOk.mk' Try.func25 (by kernel_rfl) rfl

set_option maxRecDepth 100000 in
set_option maxHeartbeats 4000000 in
theorem MachTurns (w : World) (A0 : Option Addr) (c0 : Nat) (xs0 : List Nat) (hc0 : Cs w A0 (rowW xs0)) (hb0 : xs0.length ≤ 9223372036854775807) (n m : Int) (hn : -9223372036854775808 ≤ n ∧ n ≤ 9223372036854775807) (hm : -9223372036854775808 ≤ m ∧ m ≤ 9223372036854775807) :
    Calls Try.prog 5 [.slice A0 xs0.length c0, .int .i64 n, .int .i64 m].toArray w fun e w' => e = .returned (.bool true) ∧ WS w [] [] w' := by
  refine calls_of_T [] 245 [] Try.func5 rfl Try.ntmps5 (by simp) (WS.refl _ _) ?_
  refine T.seq ?_
  refine T.text [.l] rfl ?_
  refine J.assign rfl rfl ?_
  refine J.end ?_
  refine X.then ?_
  refine T.seq ?_
  refine T.text [.l, .l, .l, .l, .l, .l, .l] rfl ?_
  refine J.move rfl rfl ?_
  refine J.callFilled 100 101 (by decide) rfl rfl fok26 rfl rfl (fun w hw => Fil.filled w _ _ _ (hc0.ws hw (off_nil _)) (by first | assumption | omega)) (fun g S zs r hf => ?_)
  obtain ⟨hz3, hzk, hS, hq, hr⟩ := hf
  have hE := atE_iff ((zs.length : Nat) : Int) n
  have hW := swapE_iff ((zs.length : Nat) : Int) n
  have hX := exE_iff ((zs.length : Nat) : Int) n m
  have hD := dupE_iff ((zs.length : Nat) : Int) n
  refine J.move rfl rfl ?_
  refine J.extract rfl rfl rfl ?_
  refine J.extract rfl rfl rfl ?_
  refine J.assign rfl rfl ?_
  refine J.assign rfl rfl ?_
  refine J.end ?_
  refine X.then ?_
  refine T.seq ?_
  refine T.seq ?_
  refine T.text [.l, .l] rfl ?_
  refine J.move rfl rfl ?_
  refine J.eqNil (by kernel_rfl) rfl rfl rfl rfl ?_
  refine J.end ?_
  refine X.then ?_
  refine T.cond_false rfl ?_
  refine T.skip ?_
  refine X.then ?_
  refine T.seq ?_
  refine T.text [.l, .l, .l] rfl ?_
  refine J.move rfl rfl ?_
  refine J.lenSl Try.underlying32 rfl rfl ?_
  refine J.assign rfl rfl ?_
  refine J.end ?_
  refine X.then ?_
  refine T.seq ?_
  refine T.text [.l, .l, .l, .l, .l, .l, .l, .l, .l] rfl ?_
  refine J.move rfl rfl ?_
  refine J.move rfl rfl ?_
  refine J.call0 (k := .l) trivial fok21 rfl rfl (fun w hw => Sa.At w g S _ hS (by omega) (hw.blkCs (k := 100) rfl) n hn) ?_
  refine J.move rfl rfl ?_
  refine J.extract rfl rfl rfl ?_
  refine J.extract rfl rfl rfl ?_
  refine J.alloc 10 rfl zero25 [.int .u64 0, .int .u64 0, .int .u64 0, .int .u64 0] rfl rfl (fun g10 hg10 => ?_)
  refine J.store 10 rfl rfl rfl rfl (wc (atX S ((zs.length : Nat) : Int) n)) rfl sz25 (by first | decide | exact Nat.le_refl _ | exact Nat.le_of_ble_eq_true rfl | (simp [rowN]; done) | (simp [rowN]; omega)) (by first | exact rowN_one _ _ | (simp; done) | (intro u hu; simp at hu; subst hu; rfl) | (intro u hu; simp at hu; rcases hu with rfl | rfl <;> rfl)) (by first | decide | exact Nat.zero_lt_succ _ | simp) trivial (wc (atX S ((zs.length : Nat) : Int) n)) rfl ?_
  refine J.assign rfl rfl ?_
  refine J.end ?_
  refine X.then ?_
  refine T.meet (ι := Unit) (fun (_ : Unit) => True) (fun (_ : Unit) => [(0, .slice A0 xs0.length c0), (1, .int .i64 n), (2, .int .i64 m), (6, .bool false), (7, .pointer (some ⟨g, 0, none⟩)), (8, r.val zs.length), (9, .int .i64 ((zs.length : Nat) : Int))]) (fun (_ : Unit) => [(100, ⟨some g, 89, stkM (S) (((zs.length : Nat) : Int))⟩), (101, r.ent 25 (rowW zs)), (10, ⟨some g10, 25, (wc (atX S ((zs.length : Nat) : Int) n))⟩)]) ?_ ?_
  · -- up to where the ways meet
    refine T.seq ?_
    refine T.draw [] [(0, .g), (1, .g), (2, .g), (3, .g), (4, .g), (5, .g), (6, .g), (7, .g), (8, .g), (9, .g), (10, .g), (11, .g), (12, .g), (13, .g), (14, .q), (15, .g), (16, .g), (17, .g), (18, .g), (19, .g), (20, .q), (21, .g), (22, .g), (23, .g), (24, .g), (25, .g), (26, .g), (27, .g), (28, .q), (29, .g), (30, .g), (31, .g), (32, .g)] (by kernel_rfl) (by kernel_rfl) ?_ rfl (by repeat (first | exact Sub.nil _ | refine Sub.cons (by first | rfl | (rw [dgs_zero]; rfl) | (rw [List.drop_length]; rfl) | (simp; done) | (congr 2; omega) | (congr 3; omega)) ?_))
    refine J.move rfl rfl ?_
    refine J.eql rfl rfl rfl rfl ?_
    refine J.move rfl rfl ?_
    refine J.geq rfl rfl rfl rfl ?_
    refine J.move rfl rfl ?_
    refine J.split 45 rfl (fun h1 => ?_) (fun h1 => ?_)
    · skip
      refine J.yes rfl rfl ?_
      refine J.move rfl rfl ?_
      refine J.yes rfl rfl ?_
      refine J.move rfl rfl ?_
      refine J.yes rfl rfl ?_
      refine J.leq rfl rfl rfl rfl ?_
      refine J.pick_t rfl rfl rfl ?_
      refine J.neqB Try.underlying4 rfl rfl rfl (by first | exact neq_iff (by omega) | exact neq_no (by omega)) ?_
      refine J.move rfl rfl ?_
      refine J.yes rfl rfl ?_
      refine J.move rfl rfl ?_
      refine J.yes rfl rfl ?_
      refine J.eql rfl rfl rfl rfl ?_
      refine J.yes rfl rfl ?_
      refine J.move rfl rfl ?_
      refine J.split 54 rfl (fun h2 => ?_) (fun h2 => ?_)
      · skip
        refine J.yes rfl rfl ?_
        refine J.loadN (k := .q) trivial 10 rfl rfl agg25 (wc (atX S ((zs.length : Nat) : Int) n)) rfl rfl rfl ?_
        refine J.yes rfl rfl ?_
        refine J.move rfl rfl ?_
        refine J.yes rfl rfl ?_
        refine J.move rfl rfl ?_
        refine J.yes rfl rfl ?_
        refine J.move rfl rfl ?_
        refine J.yes rfl rfl ?_
        refine J.sub' rfl rfl rfl (by exact i64_ok _ (by omega)) ?_
        obtain ⟨u, hu⟩ : ∃ u : Nat, ((zs.length : Nat) : Int) - n = (u : Int) := ⟨(((zs.length : Nat) : Int) - n).toNat, by omega⟩
        refine J.as 59 (.int .i64 (u : Int)) rfl (by first | (congr 1; done) | (congr 1; omega)) ?_
        refine J.yes rfl rfl ?_
        refine J.indexRow sl32 rfl (hr.some (by omega)) rfl (by omega) (by omega) (by first | exact Int.toNat_natCast _ | rfl) rfl ?_
        refine J.yes rfl rfl ?_
        refine J.loadW (k := .q) trivial 101 rfl rfl agg25 (by first | rfl | with_reducible exact rowW_seg0 _ _ _ (by omega) | with_reducible exact rowW_seg00 _ _ (by omega) | with_reducible exact rowW_segs _ _ _ (by omega) | with_reducible exact rowW_seg _ _ (by omega) | with_reducible exact rowW_segb _ _ _ (by omega) | exact rowW_seg _ _ (by omega) | exact rowW_segs _ _ _ (by omega)) rfl ?_
        refine J.yes rfl rfl ?_
        refine J.neqW eqw25 rfl rfl rfl ?_
        refine J.as 62 (.bool false) rfl (by rw [decide_eq_false (fun h => h (by rw [atX_yes (by omega), ix_of hu (by omega), hq u (by omega)]))]) ?_
        refine J.yes rfl rfl ?_
        refine J.pick_t rfl rfl rfl ?_
        refine J.pick_f rfl rfl rfl ?_
        refine J.move rfl rfl ?_
        refine J.yes rfl rfl ?_
        refine J.move rfl rfl ?_
        refine J.yes rfl rfl ?_
        refine J.neq rfl rfl rfl rfl ?_
        refine J.yes rfl rfl ?_
        refine J.move rfl rfl ?_
        refine J.split 68 rfl (fun h3 => ?_) (fun h3 => ?_)
        · skip
          refine J.yes rfl rfl ?_
          refine J.loadN (k := .q) trivial 10 rfl rfl agg25 (wc (atX S ((zs.length : Nat) : Int) n)) rfl rfl rfl ?_
          refine J.yes rfl rfl ?_
          refine J.build rfl rfl (W 0) (fun w => by kernel_rfl) ?_
          refine J.yes rfl rfl ?_
          refine J.neqW eqw25 rfl rfl rfl ?_
          refine J.as 71 (.bool false) rfl (by rw [decide_eq_false (fun h => h (by rw [atX_no (by omega)]))]) ?_
          refine J.yes rfl rfl ?_
          refine J.pick_t rfl rfl rfl ?_
          refine J.pick_f rfl rfl rfl ?_
          refine J.end ?_
          refine X.then ?_
          refine T.cond_false rfl ?_
          refine T.skip ?_
          exact X.at () trivial (by repeat (first | exact Sub.nil _ | refine Sub.cons (by first | rfl | (rw [dgs_zero]; rfl) | (rw [List.drop_length]; rfl) | (simp; done) | (congr 2; omega) | (congr 3; omega)) ?_)) (by repeat (first | exact Sub.nil _ | refine Sub.cons (by first | rfl | (rw [dgs_zero]; rfl) | (rw [List.drop_length]; rfl) | (simp; done) | (congr 2; omega) | (congr 3; omega)) ?_))
        · skip
          refine J.no rfl rfl rfl rfl ?_
          refine J.no rfl rfl rfl rfl ?_
          refine J.no rfl rfl rfl rfl ?_
          refine J.yes rfl rfl ?_
          refine J.pick_f rfl rfl rfl ?_
          refine J.pick_f rfl rfl rfl ?_
          refine J.end ?_
          refine X.then ?_
          refine T.cond_false rfl ?_
          refine T.skip ?_
          exact X.at () trivial (by repeat (first | exact Sub.nil _ | refine Sub.cons (by first | rfl | (rw [dgs_zero]; rfl) | (rw [List.drop_length]; rfl) | (simp; done) | (congr 2; omega) | (congr 3; omega)) ?_)) (by repeat (first | exact Sub.nil _ | refine Sub.cons (by first | rfl | (rw [dgs_zero]; rfl) | (rw [List.drop_length]; rfl) | (simp; done) | (congr 2; omega) | (congr 3; omega)) ?_))
      · skip
        refine J.no rfl rfl rfl rfl ?_
        refine J.no rfl rfl rfl rfl ?_
        refine J.no rfl rfl rfl rfl ?_
        refine J.no rfl rfl rfl rfl ?_
        refine J.no rfl rfl rfl rfl ?_
        refine J.no rfl rfl rfl rfl ?_
        refine J.no rfl rfl rfl rfl ?_
        refine J.no rfl rfl rfl rfl ?_
        refine J.yes rfl rfl ?_
        refine J.pick_f rfl rfl rfl ?_
        refine J.pick_f rfl rfl rfl ?_
        refine J.move rfl rfl ?_
        refine J.yes rfl rfl ?_
        refine J.move rfl rfl ?_
        refine J.yes rfl rfl ?_
        refine J.neq rfl rfl rfl rfl ?_
        refine J.yes rfl rfl ?_
        refine J.move rfl rfl ?_
        refine J.split 68 rfl (fun h4 => ?_) (fun h4 => ?_)
        · skip
          refine J.yes rfl rfl ?_
          refine J.loadN (k := .q) trivial 10 rfl rfl agg25 (wc (atX S ((zs.length : Nat) : Int) n)) rfl rfl rfl ?_
          refine J.yes rfl rfl ?_
          refine J.build rfl rfl (W 0) (fun w => by kernel_rfl) ?_
          refine J.yes rfl rfl ?_
          refine J.neqW eqw25 rfl rfl rfl ?_
          refine J.as 71 (.bool false) rfl (by rw [decide_eq_false (fun h => h (by rw [atX_no (by omega)]))]) ?_
          refine J.yes rfl rfl ?_
          refine J.pick_t rfl rfl rfl ?_
          refine J.pick_f rfl rfl rfl ?_
          refine J.end ?_
          refine X.then ?_
          refine T.cond_false rfl ?_
          refine T.skip ?_
          exact X.at () trivial (by repeat (first | exact Sub.nil _ | refine Sub.cons (by first | rfl | (rw [dgs_zero]; rfl) | (rw [List.drop_length]; rfl) | (simp; done) | (congr 2; omega) | (congr 3; omega)) ?_)) (by repeat (first | exact Sub.nil _ | refine Sub.cons (by first | rfl | (rw [dgs_zero]; rfl) | (rw [List.drop_length]; rfl) | (simp; done) | (congr 2; omega) | (congr 3; omega)) ?_))
        · skip
          refine J.no rfl rfl rfl rfl ?_
          refine J.no rfl rfl rfl rfl ?_
          refine J.no rfl rfl rfl rfl ?_
          refine J.yes rfl rfl ?_
          refine J.pick_f rfl rfl rfl ?_
          refine J.pick_f rfl rfl rfl ?_
          refine J.end ?_
          refine X.then ?_
          refine T.cond_false rfl ?_
          refine T.skip ?_
          exact X.at () trivial (by repeat (first | exact Sub.nil _ | refine Sub.cons (by first | rfl | (rw [dgs_zero]; rfl) | (rw [List.drop_length]; rfl) | (simp; done) | (congr 2; omega) | (congr 3; omega)) ?_)) (by repeat (first | exact Sub.nil _ | refine Sub.cons (by first | rfl | (rw [dgs_zero]; rfl) | (rw [List.drop_length]; rfl) | (simp; done) | (congr 2; omega) | (congr 3; omega)) ?_))
    · skip
      refine J.no rfl rfl rfl rfl ?_
      refine J.no rfl rfl rfl rfl ?_
      refine J.no rfl rfl rfl rfl ?_
      refine J.pick_f rfl rfl rfl ?_
      refine J.neqB Try.underlying4 rfl rfl rfl (by first | exact neq_iff (by omega) | exact neq_no (by omega)) ?_
      refine J.move rfl rfl ?_
      refine J.yes rfl rfl ?_
      refine J.move rfl rfl ?_
      refine J.yes rfl rfl ?_
      refine J.eql rfl rfl rfl rfl ?_
      refine J.yes rfl rfl ?_
      refine J.move rfl rfl ?_
      refine J.split 54 rfl (fun h5 => ?_) (fun h5 => ?_)
      · skip
        refine J.yes rfl rfl ?_
        refine J.loadN (k := .q) trivial 10 rfl rfl agg25 (wc (atX S ((zs.length : Nat) : Int) n)) rfl rfl rfl ?_
        refine J.yes rfl rfl ?_
        refine J.move rfl rfl ?_
        refine J.yes rfl rfl ?_
        refine J.move rfl rfl ?_
        refine J.yes rfl rfl ?_
        refine J.move rfl rfl ?_
        refine J.yes rfl rfl ?_
        refine J.sub' rfl rfl rfl (by exact i64_ok _ (by omega)) ?_
        obtain ⟨u, hu⟩ : ∃ u : Nat, ((zs.length : Nat) : Int) - n = (u : Int) := ⟨(((zs.length : Nat) : Int) - n).toNat, by omega⟩
        refine J.as 59 (.int .i64 (u : Int)) rfl (by first | (congr 1; done) | (congr 1; omega)) ?_
        refine J.yes rfl rfl ?_
        refine J.indexRow sl32 rfl (hr.some (by omega)) rfl (by omega) (by omega) (by first | exact Int.toNat_natCast _ | rfl) rfl ?_
        refine J.yes rfl rfl ?_
        refine J.loadW (k := .q) trivial 101 rfl rfl agg25 (by first | rfl | with_reducible exact rowW_seg0 _ _ _ (by omega) | with_reducible exact rowW_seg00 _ _ (by omega) | with_reducible exact rowW_segs _ _ _ (by omega) | with_reducible exact rowW_seg _ _ (by omega) | with_reducible exact rowW_segb _ _ _ (by omega) | exact rowW_seg _ _ (by omega) | exact rowW_segs _ _ _ (by omega)) rfl ?_
        refine J.yes rfl rfl ?_
        refine J.neqW eqw25 rfl rfl rfl ?_
        refine J.as 62 (.bool false) rfl (by rw [decide_eq_false (fun h => h (by rw [atX_yes (by omega), ix_of hu (by omega), hq u (by omega)]))]) ?_
        refine J.yes rfl rfl ?_
        refine J.pick_t rfl rfl rfl ?_
        refine J.pick_f rfl rfl rfl ?_
        refine J.move rfl rfl ?_
        refine J.yes rfl rfl ?_
        refine J.move rfl rfl ?_
        refine J.yes rfl rfl ?_
        refine J.neq rfl rfl rfl rfl ?_
        refine J.yes rfl rfl ?_
        refine J.move rfl rfl ?_
        refine J.split 68 rfl (fun h6 => ?_) (fun h6 => ?_)
        · skip
          refine J.yes rfl rfl ?_
          refine J.loadN (k := .q) trivial 10 rfl rfl agg25 (wc (atX S ((zs.length : Nat) : Int) n)) rfl rfl rfl ?_
          refine J.yes rfl rfl ?_
          refine J.build rfl rfl (W 0) (fun w => by kernel_rfl) ?_
          refine J.yes rfl rfl ?_
          refine J.neqW eqw25 rfl rfl rfl ?_
          refine J.as 71 (.bool false) rfl (by rw [decide_eq_false (fun h => h (by rw [atX_no (by omega)]))]) ?_
          refine J.yes rfl rfl ?_
          refine J.pick_t rfl rfl rfl ?_
          refine J.pick_f rfl rfl rfl ?_
          refine J.end ?_
          refine X.then ?_
          refine T.cond_false rfl ?_
          refine T.skip ?_
          exact X.at () trivial (by repeat (first | exact Sub.nil _ | refine Sub.cons (by first | rfl | (rw [dgs_zero]; rfl) | (rw [List.drop_length]; rfl) | (simp; done) | (congr 2; omega) | (congr 3; omega)) ?_)) (by repeat (first | exact Sub.nil _ | refine Sub.cons (by first | rfl | (rw [dgs_zero]; rfl) | (rw [List.drop_length]; rfl) | (simp; done) | (congr 2; omega) | (congr 3; omega)) ?_))
        · skip
          refine J.no rfl rfl rfl rfl ?_
          refine J.no rfl rfl rfl rfl ?_
          refine J.no rfl rfl rfl rfl ?_
          refine J.yes rfl rfl ?_
          refine J.pick_f rfl rfl rfl ?_
          refine J.pick_f rfl rfl rfl ?_
          refine J.end ?_
          refine X.then ?_
          refine T.cond_false rfl ?_
          refine T.skip ?_
          exact X.at () trivial (by repeat (first | exact Sub.nil _ | refine Sub.cons (by first | rfl | (rw [dgs_zero]; rfl) | (rw [List.drop_length]; rfl) | (simp; done) | (congr 2; omega) | (congr 3; omega)) ?_)) (by repeat (first | exact Sub.nil _ | refine Sub.cons (by first | rfl | (rw [dgs_zero]; rfl) | (rw [List.drop_length]; rfl) | (simp; done) | (congr 2; omega) | (congr 3; omega)) ?_))
      · skip
        refine J.no rfl rfl rfl rfl ?_
        refine J.no rfl rfl rfl rfl ?_
        refine J.no rfl rfl rfl rfl ?_
        refine J.no rfl rfl rfl rfl ?_
        refine J.no rfl rfl rfl rfl ?_
        refine J.no rfl rfl rfl rfl ?_
        refine J.no rfl rfl rfl rfl ?_
        refine J.no rfl rfl rfl rfl ?_
        refine J.yes rfl rfl ?_
        refine J.pick_f rfl rfl rfl ?_
        refine J.pick_f rfl rfl rfl ?_
        refine J.move rfl rfl ?_
        refine J.yes rfl rfl ?_
        refine J.move rfl rfl ?_
        refine J.yes rfl rfl ?_
        refine J.neq rfl rfl rfl rfl ?_
        refine J.yes rfl rfl ?_
        refine J.move rfl rfl ?_
        refine J.split 68 rfl (fun h7 => ?_) (fun h7 => ?_)
        · skip
          refine J.yes rfl rfl ?_
          refine J.loadN (k := .q) trivial 10 rfl rfl agg25 (wc (atX S ((zs.length : Nat) : Int) n)) rfl rfl rfl ?_
          refine J.yes rfl rfl ?_
          refine J.build rfl rfl (W 0) (fun w => by kernel_rfl) ?_
          refine J.yes rfl rfl ?_
          refine J.neqW eqw25 rfl rfl rfl ?_
          refine J.as 71 (.bool false) rfl (by rw [decide_eq_false (fun h => h (by rw [atX_no (by omega)]))]) ?_
          refine J.yes rfl rfl ?_
          refine J.pick_t rfl rfl rfl ?_
          refine J.pick_f rfl rfl rfl ?_
          refine J.end ?_
          refine X.then ?_
          refine T.cond_false rfl ?_
          refine T.skip ?_
          exact X.at () trivial (by repeat (first | exact Sub.nil _ | refine Sub.cons (by first | rfl | (rw [dgs_zero]; rfl) | (rw [List.drop_length]; rfl) | (simp; done) | (congr 2; omega) | (congr 3; omega)) ?_)) (by repeat (first | exact Sub.nil _ | refine Sub.cons (by first | rfl | (rw [dgs_zero]; rfl) | (rw [List.drop_length]; rfl) | (simp; done) | (congr 2; omega) | (congr 3; omega)) ?_))
        · skip
          refine J.no rfl rfl rfl rfl ?_
          refine J.no rfl rfl rfl rfl ?_
          refine J.no rfl rfl rfl rfl ?_
          refine J.yes rfl rfl ?_
          refine J.pick_f rfl rfl rfl ?_
          refine J.pick_f rfl rfl rfl ?_
          refine J.end ?_
          refine X.then ?_
          refine T.cond_false rfl ?_
          refine T.skip ?_
          exact X.at () trivial (by repeat (first | exact Sub.nil _ | refine Sub.cons (by first | rfl | (rw [dgs_zero]; rfl) | (rw [List.drop_length]; rfl) | (simp; done) | (congr 2; omega) | (congr 3; omega)) ?_)) (by repeat (first | exact Sub.nil _ | refine Sub.cons (by first | rfl | (rw [dgs_zero]; rfl) | (rw [List.drop_length]; rfl) | (simp; done) | (congr 2; omega) | (congr 3; omega)) ?_))
  · rintro _ -
    refine T.seq ?_
    refine T.text [.l, .l, .l, .l] rfl ?_
    refine J.move rfl rfl ?_
    refine J.move rfl rfl ?_
    refine J.callMut 100 rfl rfl fok27 rfl rfl (fun w hw => Sa.Swap w g S _ hS (by omega) (hw.live 100 _ rfl) n hn) ?_
    refine J.assign rfl rfl ?_
    refine J.end ?_
    refine X.then ?_
    refine T.meet (ι := Unit) (fun (_ : Unit) => True) (fun (_ : Unit) => [(0, .slice A0 xs0.length c0), (1, .int .i64 n), (2, .int .i64 m), (6, .bool false), (7, .pointer (some ⟨g, 0, none⟩)), (8, r.val zs.length), (9, .int .i64 ((zs.length : Nat) : Int)), (12, .int .i64 ((swapE ((zs.length : Nat) : Int) n : Nat) : Int))]) (fun (_ : Unit) => [(100, ⟨some g, 89, stkM (swapS S ((zs.length : Nat) : Int) n) (((zs.length : Nat) : Int))⟩), (101, r.ent 25 (rowW zs)), (10, ⟨some g10, 25, (wc (atX S ((zs.length : Nat) : Int) n))⟩)]) ?_ ?_
    · -- up to where the ways meet
      refine T.seq ?_
      refine T.text [.l, .l, .l, .l, .l, .l, .l, .l, .l, .l] rfl ?_
      refine J.move rfl rfl ?_
      refine J.eql rfl rfl rfl rfl ?_
      refine J.move rfl rfl ?_
      refine J.geq rfl rfl rfl rfl ?_
      refine J.move rfl rfl ?_
      refine J.split 81 rfl (fun h8 => ?_) (fun h8 => ?_)
      · skip
        refine J.yes rfl rfl ?_
        refine J.move rfl rfl ?_
        refine J.yes rfl rfl ?_
        refine J.move rfl rfl ?_
        refine J.yes rfl rfl ?_
        refine J.lss rfl rfl rfl rfl ?_
        refine J.pick_t rfl rfl rfl ?_
        refine J.neqB Try.underlying4 rfl rfl rfl (by first | exact neq_iff (by omega) | exact neq_no (by omega)) ?_
        refine J.end ?_
        refine X.then ?_
        refine T.cond_false rfl ?_
        refine T.skip ?_
        exact X.at () trivial (by repeat (first | exact Sub.nil _ | refine Sub.cons (by first | rfl | (rw [dgs_zero]; rfl) | (rw [List.drop_length]; rfl) | (simp; done) | (congr 2; omega) | (congr 3; omega)) ?_)) (by repeat (first | exact Sub.nil _ | refine Sub.cons (by first | rfl | (rw [dgs_zero]; rfl) | (rw [List.drop_length]; rfl) | (simp; done) | (congr 2; omega) | (congr 3; omega)) ?_))
      · skip
        refine J.no rfl rfl rfl rfl ?_
        refine J.no rfl rfl rfl rfl ?_
        refine J.no rfl rfl rfl rfl ?_
        refine J.pick_f rfl rfl rfl ?_
        refine J.neqB Try.underlying4 rfl rfl rfl (by first | exact neq_iff (by omega) | exact neq_no (by omega)) ?_
        refine J.end ?_
        refine X.then ?_
        refine T.cond_false rfl ?_
        refine T.skip ?_
        exact X.at () trivial (by repeat (first | exact Sub.nil _ | refine Sub.cons (by first | rfl | (rw [dgs_zero]; rfl) | (rw [List.drop_length]; rfl) | (simp; done) | (congr 2; omega) | (congr 3; omega)) ?_)) (by repeat (first | exact Sub.nil _ | refine Sub.cons (by first | rfl | (rw [dgs_zero]; rfl) | (rw [List.drop_length]; rfl) | (simp; done) | (congr 2; omega) | (congr 3; omega)) ?_))
    · rintro _ -
      refine T.meet (ι := Unit) (fun (_ : Unit) => True) (fun (_ : Unit) => [(0, .slice A0 xs0.length c0), (1, .int .i64 n), (2, .int .i64 m), (6, .bool false), (7, .pointer (some ⟨g, 0, none⟩)), (8, r.val zs.length), (9, .int .i64 ((zs.length : Nat) : Int))]) (fun (_ : Unit) => [(101, r.ent 25 (rowW zs)), (10, ⟨some g10, 25, (wc (atX S ((zs.length : Nat) : Int) n))⟩), (100, ⟨some g, 89, stkM (S) (((zs.length : Nat) : Int))⟩)]) ?_ ?_
      · -- up to where the ways meet
        refine T.seq ?_
        refine T.text [.l, .l] rfl ?_
        refine J.move rfl rfl ?_
        refine J.eql rfl rfl rfl rfl ?_
        refine J.end ?_
        refine X.then ?_
        refine T.cond_dec rfl (fun h9 => ?_) (fun h9 => ?_)
        · obtain ⟨i, hi⟩ : ∃ i : Nat, ((zs.length : Nat) : Int) - 1 = (i : Int) := ⟨(((zs.length : Nat) : Int) - 1).toNat, by omega⟩
          obtain ⟨j, hj⟩ : ∃ j : Nat, ((zs.length : Nat) : Int) - (n + 1) = (j : Int) := ⟨(((zs.length : Nat) : Int) - (n + 1)).toNat, by omega⟩
          have hS1 : (swp S i j).length = 1024 := by rw [swp_length]; exact hS
          refine T.asE 100 ⟨some g, 89, stkM (swp S i j) (((zs.length : Nat) : Int))⟩ rfl (by rw [swapS_yes h9, ix_of hi (by omega), ix_of hj (by omega)]) ?_
          refine T.seq ?_
          refine T.text [.l, .l, .l, .l, .l, .l, .l, .l] rfl ?_
          refine J.move rfl rfl ?_
          refine J.call0 (k := .l) trivial fok21 rfl rfl (fun w hw => Sa.At w g _ _ hS1 (by omega) (hw.blkCs (k := 100) rfl) 1 (by omega)) ?_
          refine J.move rfl rfl ?_
          refine J.extract rfl rfl rfl ?_
          refine J.as 92 (W (zs.getD j 0)) rfl (by rw [atX_yes ((atE_iff _ _).2 (by omega)), ix_of hi (by omega), swp_i (by omega) (by omega), hq j (by omega)]) ?_
          refine J.extract rfl rfl rfl ?_
          refine J.alloc 13 rfl zero25 [.int .u64 0, .int .u64 0, .int .u64 0, .int .u64 0] rfl rfl (fun g13 hg13 => ?_)
          refine J.store 13 rfl rfl rfl rfl (wc (zs.getD j 0)) rfl sz25 (by first | decide | exact Nat.le_refl _ | exact Nat.le_of_ble_eq_true rfl | (simp [rowN]; done) | (simp [rowN]; omega)) (by first | exact rowN_one _ _ | (simp; done) | (intro u hu; simp at hu; subst hu; rfl) | (intro u hu; simp at hu; rcases hu with rfl | rfl <;> rfl)) (by first | decide | exact Nat.zero_lt_succ _ | simp) trivial (wc (zs.getD j 0)) rfl ?_
          refine J.assign rfl rfl ?_
          refine J.end ?_
          refine X.then ?_
          refine T.seq ?_
          refine T.text [.l, .l, .l, .l, .l, .l, .l, .l, .l, .l] rfl ?_
          refine J.move rfl rfl ?_
          refine J.move rfl rfl ?_
          refine J.add rfl rfl rfl (by exact i64_ok _ (by omega)) ?_
          refine J.call0 (k := .l) trivial fok21 rfl rfl (fun w hw => Sa.At w g _ _ hS1 (by omega) (hw.blkCs (k := 100) rfl) _ (by omega)) ?_
          refine J.move rfl rfl ?_
          refine J.extract rfl rfl rfl ?_
          refine J.as 99 (W (zs.getD i 0)) rfl (by rw [atX_yes ((atE_iff _ _).2 (by omega)), ix_of hj (by omega), swp_j (by omega), hq i (by omega)]) ?_
          refine J.extract rfl rfl rfl ?_
          refine J.alloc 15 rfl zero25 [.int .u64 0, .int .u64 0, .int .u64 0, .int .u64 0] rfl rfl (fun g15 hg15 => ?_)
          refine J.store 15 rfl rfl rfl rfl (wc (zs.getD i 0)) rfl sz25 (by first | decide | exact Nat.le_refl _ | exact Nat.le_of_ble_eq_true rfl | (simp [rowN]; done) | (simp [rowN]; omega)) (by first | exact rowN_one _ _ | (simp; done) | (intro u hu; simp at hu; subst hu; rfl) | (intro u hu; simp at hu; rcases hu with rfl | rfl <;> rfl)) (by first | decide | exact Nat.zero_lt_succ _ | simp) trivial (wc (zs.getD i 0)) rfl ?_
          refine J.assign rfl rfl ?_
          refine J.end ?_
          refine X.then ?_
          refine T.seq ?_
          refine T.text [.l, .l, .l, .l] rfl ?_
          refine J.move rfl rfl ?_
          refine J.move rfl rfl ?_
          refine J.add rfl rfl rfl (by exact i64_ok _ (by omega)) ?_
          refine J.callMut 100 rfl rfl fok28 rfl rfl (fun w hw => Sa.Turn w g _ _ hS1 (by omega) (hw.live 100 _ rfl) _ _) ?_
          refine J.end ?_
          refine X.then ?_
          refine T.seq ?_
          refine T.draw [] [(0, .q), (1, .g), (2, .g), (3, .g), (4, .g), (5, .g), (6, .g), (7, .q), (8, .g), (9, .g), (10, .q), (11, .g), (12, .g), (13, .g), (14, .g), (15, .q), (16, .g), (17, .g)] (by kernel_rfl) (by kernel_rfl) ?_ rfl (by repeat (first | exact Sub.nil _ | refine Sub.cons (by first | rfl | (rw [dgs_zero]; rfl) | (rw [List.drop_length]; rfl) | (simp; done) | (congr 2; omega) | (congr 3; omega)) ?_))
          refine J.loadN (k := .q) trivial 13 rfl rfl agg25 (wc (zs.getD j 0)) rfl rfl rfl ?_
          refine J.move rfl rfl ?_
          refine J.move rfl rfl ?_
          refine J.move rfl rfl ?_
          refine J.sub' rfl rfl rfl (by exact i64_ok _ (by omega)) ?_
          refine J.sub' rfl rfl rfl (by exact i64_ok _ (by omega)) ?_
          refine J.as 110 (.int .i64 (j : Int)) rfl (by first | (congr 1; done) | (congr 1; omega)) ?_
          refine J.indexRow sl32 rfl (hr.some (by omega)) rfl (by omega) (by omega) (by first | exact Int.toNat_natCast _ | rfl) rfl ?_
          refine J.loadW (k := .q) trivial 101 rfl rfl agg25 (by first | rfl | with_reducible exact rowW_seg0 _ _ _ (by omega) | with_reducible exact rowW_seg00 _ _ (by omega) | with_reducible exact rowW_segs _ _ _ (by omega) | with_reducible exact rowW_seg _ _ (by omega) | with_reducible exact rowW_segb _ _ _ (by omega) | exact rowW_seg _ _ (by omega) | exact rowW_segs _ _ _ (by omega)) rfl ?_
          refine J.neqW eqw25 rfl rfl rfl ?_
          refine J.as 113 (.bool false) rfl (by rw [decide_eq_false (fun h => h (by rfl))]) ?_
          refine J.move rfl rfl ?_
          refine J.yes rfl rfl ?_
          refine J.loadN (k := .q) trivial 15 rfl rfl agg25 (wc (zs.getD i 0)) rfl rfl rfl ?_
          refine J.yes rfl rfl ?_
          refine J.move rfl rfl ?_
          refine J.yes rfl rfl ?_
          refine J.move rfl rfl ?_
          refine J.yes rfl rfl ?_
          refine J.sub' rfl rfl rfl (by exact i64_ok _ (by omega)) ?_
          refine J.as 118 (.int .i64 (i : Int)) rfl (by first | (congr 1; done) | (congr 1; omega)) ?_
          refine J.yes rfl rfl ?_
          refine J.indexRow sl32 rfl (hr.some (by omega)) rfl (by omega) (by omega) (by first | exact Int.toNat_natCast _ | rfl) rfl ?_
          refine J.yes rfl rfl ?_
          refine J.loadW (k := .q) trivial 101 rfl rfl agg25 (by first | rfl | with_reducible exact rowW_seg0 _ _ _ (by omega) | with_reducible exact rowW_seg00 _ _ (by omega) | with_reducible exact rowW_segs _ _ _ (by omega) | with_reducible exact rowW_seg _ _ (by omega) | with_reducible exact rowW_segb _ _ _ (by omega) | exact rowW_seg _ _ (by omega) | exact rowW_segs _ _ _ (by omega)) rfl ?_
          refine J.yes rfl rfl ?_
          refine J.neqW eqw25 rfl rfl rfl ?_
          refine J.as 121 (.bool false) rfl (by rw [decide_eq_false (fun h => h (by rfl))]) ?_
          refine J.pick_f rfl rfl rfl ?_
          refine J.end ?_
          refine X.then ?_
          refine T.cond_false rfl ?_
          refine T.skip ?_
          refine X.asE 100 ⟨some g, 89, stkM (S) (((zs.length : Nat) : Int))⟩ rfl (by rw [ix_of hj (by omega), ix_of hi (by omega), swp_back (by omega) (by omega)]) ?_
          exact X.at () trivial (by repeat (first | exact Sub.nil _ | refine Sub.cons (by first | rfl | (rw [dgs_zero]; rfl) | (rw [List.drop_length]; rfl) | (simp; done) | (congr 2; omega) | (congr 3; omega)) ?_)) (by repeat (first | exact Sub.nil _ | refine Sub.cons (by first | rfl | (rw [dgs_zero]; rfl) | (rw [List.drop_length]; rfl) | (simp; done) | (congr 2; omega) | (congr 3; omega)) ?_))
        · have hno := h9
          refine T.skip ?_
          refine X.asE 100 ⟨some g, 89, stkM (S) (((zs.length : Nat) : Int))⟩ rfl (by rw [swapS_no hno]) ?_
          exact X.at () trivial (by repeat (first | exact Sub.nil _ | refine Sub.cons (by first | rfl | (rw [dgs_zero]; rfl) | (rw [List.drop_length]; rfl) | (simp; done) | (congr 2; omega) | (congr 3; omega)) ?_)) (by repeat (first | exact Sub.nil _ | refine Sub.cons (by first | rfl | (rw [dgs_zero]; rfl) | (rw [List.drop_length]; rfl) | (simp; done) | (congr 2; omega) | (congr 3; omega)) ?_))
      · rintro _ -
        refine T.seq ?_
        refine T.text [.l, .l, .l, .l, .l] rfl ?_
        refine J.move rfl rfl ?_
        refine J.move rfl rfl ?_
        refine J.move rfl rfl ?_
        refine J.callMut 100 rfl rfl fok29 rfl rfl (fun w hw => Sa.Exchange w g S _ hS (by omega) (hw.live 100 _ rfl) n hn m hm) ?_
        refine J.assign rfl rfl ?_
        refine J.end ?_
        refine X.then ?_
        refine T.meet (ι := Unit) (fun (_ : Unit) => True) (fun (_ : Unit) => [(0, .slice A0 xs0.length c0), (1, .int .i64 n), (2, .int .i64 m), (6, .bool false), (7, .pointer (some ⟨g, 0, none⟩)), (8, r.val zs.length), (9, .int .i64 ((zs.length : Nat) : Int)), (17, .int .i64 ((exE ((zs.length : Nat) : Int) n m : Nat) : Int))]) (fun (_ : Unit) => [(101, r.ent 25 (rowW zs)), (10, ⟨some g10, 25, (wc (atX S ((zs.length : Nat) : Int) n))⟩), (100, ⟨some g, 89, stkM (exS S ((zs.length : Nat) : Int) n m) (((zs.length : Nat) : Int))⟩)]) ?_ ?_
        · -- up to where the ways meet
          refine T.seq ?_
          refine T.text [.l, .l, .l, .l, .l, .l, .l, .l, .l, .l, .l, .l, .l, .l, .l, .l, .l, .l, .l, .l, .l, .l, .l, .l, .l, .l] rfl ?_
          refine J.move rfl rfl ?_
          refine J.eql rfl rfl rfl rfl ?_
          refine J.move rfl rfl ?_
          refine J.geq rfl rfl rfl rfl ?_
          refine J.move rfl rfl ?_
          refine J.split 131 rfl (fun h10 => ?_) (fun h10 => ?_)
          · skip
            refine J.yes rfl rfl ?_
            refine J.move rfl rfl ?_
            refine J.yes rfl rfl ?_
            refine J.geq rfl rfl rfl rfl ?_
            refine J.pick_t rfl rfl rfl ?_
            refine J.move rfl rfl ?_
            refine J.split 135 rfl (fun h11 => ?_) (fun h11 => ?_)
            · skip
              refine J.yes rfl rfl ?_
              refine J.move rfl rfl ?_
              refine J.yes rfl rfl ?_
              refine J.move rfl rfl ?_
              refine J.yes rfl rfl ?_
              refine J.lss rfl rfl rfl rfl ?_
              refine J.pick_t rfl rfl rfl ?_
              refine J.move rfl rfl ?_
              refine J.split 140 rfl (fun h12 => ?_) (fun h12 => ?_)
              · skip
                refine J.yes rfl rfl ?_
                refine J.move rfl rfl ?_
                refine J.yes rfl rfl ?_
                refine J.move rfl rfl ?_
                refine J.yes rfl rfl ?_
                refine J.lss rfl rfl rfl rfl ?_
                refine J.pick_t rfl rfl rfl ?_
                refine J.move rfl rfl ?_
                refine J.split 145 rfl (fun h13 => ?_) (fun h13 => ?_)
                · skip
                  refine J.yes rfl rfl ?_
                  refine J.move rfl rfl ?_
                  refine J.yes rfl rfl ?_
                  refine J.move rfl rfl ?_
                  refine J.yes rfl rfl ?_
                  refine J.add rfl rfl rfl (by exact i64_ok _ (by omega)) ?_
                  refine J.yes rfl rfl ?_
                  refine J.move rfl rfl ?_
                  refine J.yes rfl rfl ?_
                  refine J.lss rfl rfl rfl rfl ?_
                  refine J.pick_t rfl rfl rfl ?_
                  refine J.neqB Try.underlying4 rfl rfl rfl (by first | exact neq_iff (by omega) | exact neq_no (by omega)) ?_
                  refine J.end ?_
                  refine X.then ?_
                  refine T.cond_false rfl ?_
                  refine T.skip ?_
                  exact X.at () trivial (by repeat (first | exact Sub.nil _ | refine Sub.cons (by first | rfl | (rw [dgs_zero]; rfl) | (rw [List.drop_length]; rfl) | (simp; done) | (congr 2; omega) | (congr 3; omega)) ?_)) (by repeat (first | exact Sub.nil _ | refine Sub.cons (by first | rfl | (rw [dgs_zero]; rfl) | (rw [List.drop_length]; rfl) | (simp; done) | (congr 2; omega) | (congr 3; omega)) ?_))
                · skip
                  refine J.no rfl rfl rfl rfl ?_
                  refine J.no rfl rfl rfl rfl ?_
                  refine J.no rfl rfl rfl rfl ?_
                  refine J.no rfl rfl rfl rfl ?_
                  refine J.no rfl rfl rfl rfl ?_
                  refine J.pick_f rfl rfl rfl ?_
                  refine J.neqB Try.underlying4 rfl rfl rfl (by first | exact neq_iff (by omega) | exact neq_no (by omega)) ?_
                  refine J.end ?_
                  refine X.then ?_
                  refine T.cond_false rfl ?_
                  refine T.skip ?_
                  exact X.at () trivial (by repeat (first | exact Sub.nil _ | refine Sub.cons (by first | rfl | (rw [dgs_zero]; rfl) | (rw [List.drop_length]; rfl) | (simp; done) | (congr 2; omega) | (congr 3; omega)) ?_)) (by repeat (first | exact Sub.nil _ | refine Sub.cons (by first | rfl | (rw [dgs_zero]; rfl) | (rw [List.drop_length]; rfl) | (simp; done) | (congr 2; omega) | (congr 3; omega)) ?_))
              · skip
                refine J.no rfl rfl rfl rfl ?_
                refine J.no rfl rfl rfl rfl ?_
                refine J.no rfl rfl rfl rfl ?_
                refine J.pick_f rfl rfl rfl ?_
                refine J.move rfl rfl ?_
                refine J.no rfl rfl rfl rfl ?_
                refine J.no rfl rfl rfl rfl ?_
                refine J.no rfl rfl rfl rfl ?_
                refine J.no rfl rfl rfl rfl ?_
                refine J.no rfl rfl rfl rfl ?_
                refine J.pick_f rfl rfl rfl ?_
                refine J.neqB Try.underlying4 rfl rfl rfl (by first | exact neq_iff (by omega) | exact neq_no (by omega)) ?_
                refine J.end ?_
                refine X.then ?_
                refine T.cond_false rfl ?_
                refine T.skip ?_
                exact X.at () trivial (by repeat (first | exact Sub.nil _ | refine Sub.cons (by first | rfl | (rw [dgs_zero]; rfl) | (rw [List.drop_length]; rfl) | (simp; done) | (congr 2; omega) | (congr 3; omega)) ?_)) (by repeat (first | exact Sub.nil _ | refine Sub.cons (by first | rfl | (rw [dgs_zero]; rfl) | (rw [List.drop_length]; rfl) | (simp; done) | (congr 2; omega) | (congr 3; omega)) ?_))
            · skip
              refine J.no rfl rfl rfl rfl ?_
              refine J.no rfl rfl rfl rfl ?_
              refine J.no rfl rfl rfl rfl ?_
              refine J.pick_f rfl rfl rfl ?_
              refine J.move rfl rfl ?_
              refine J.no rfl rfl rfl rfl ?_
              refine J.no rfl rfl rfl rfl ?_
              refine J.no rfl rfl rfl rfl ?_
              refine J.pick_f rfl rfl rfl ?_
              refine J.move rfl rfl ?_
              refine J.no rfl rfl rfl rfl ?_
              refine J.no rfl rfl rfl rfl ?_
              refine J.no rfl rfl rfl rfl ?_
              refine J.no rfl rfl rfl rfl ?_
              refine J.no rfl rfl rfl rfl ?_
              refine J.pick_f rfl rfl rfl ?_
              refine J.neqB Try.underlying4 rfl rfl rfl (by first | exact neq_iff (by omega) | exact neq_no (by omega)) ?_
              refine J.end ?_
              refine X.then ?_
              refine T.cond_false rfl ?_
              refine T.skip ?_
              exact X.at () trivial (by repeat (first | exact Sub.nil _ | refine Sub.cons (by first | rfl | (rw [dgs_zero]; rfl) | (rw [List.drop_length]; rfl) | (simp; done) | (congr 2; omega) | (congr 3; omega)) ?_)) (by repeat (first | exact Sub.nil _ | refine Sub.cons (by first | rfl | (rw [dgs_zero]; rfl) | (rw [List.drop_length]; rfl) | (simp; done) | (congr 2; omega) | (congr 3; omega)) ?_))
          · skip
            refine J.no rfl rfl rfl rfl ?_
            refine J.no rfl rfl rfl rfl ?_
            refine J.pick_f rfl rfl rfl ?_
            refine J.move rfl rfl ?_
            refine J.no rfl rfl rfl rfl ?_
            refine J.no rfl rfl rfl rfl ?_
            refine J.no rfl rfl rfl rfl ?_
            refine J.pick_f rfl rfl rfl ?_
            refine J.move rfl rfl ?_
            refine J.no rfl rfl rfl rfl ?_
            refine J.no rfl rfl rfl rfl ?_
            refine J.no rfl rfl rfl rfl ?_
            refine J.pick_f rfl rfl rfl ?_
            refine J.move rfl rfl ?_
            refine J.no rfl rfl rfl rfl ?_
            refine J.no rfl rfl rfl rfl ?_
            refine J.no rfl rfl rfl rfl ?_
            refine J.no rfl rfl rfl rfl ?_
            refine J.no rfl rfl rfl rfl ?_
            refine J.pick_f rfl rfl rfl ?_
            refine J.neqB Try.underlying4 rfl rfl rfl (by first | exact neq_iff (by omega) | exact neq_no (by omega)) ?_
            refine J.end ?_
            refine X.then ?_
            refine T.cond_false rfl ?_
            refine T.skip ?_
            exact X.at () trivial (by repeat (first | exact Sub.nil _ | refine Sub.cons (by first | rfl | (rw [dgs_zero]; rfl) | (rw [List.drop_length]; rfl) | (simp; done) | (congr 2; omega) | (congr 3; omega)) ?_)) (by repeat (first | exact Sub.nil _ | refine Sub.cons (by first | rfl | (rw [dgs_zero]; rfl) | (rw [List.drop_length]; rfl) | (simp; done) | (congr 2; omega) | (congr 3; omega)) ?_))
        · rintro _ -
          refine T.meet (ι := Unit) (fun (_ : Unit) => True) (fun (_ : Unit) => [(0, .slice A0 xs0.length c0), (1, .int .i64 n), (2, .int .i64 m), (6, .bool false), (7, .pointer (some ⟨g, 0, none⟩)), (8, r.val zs.length), (9, .int .i64 ((zs.length : Nat) : Int))]) (fun (_ : Unit) => [(101, r.ent 25 (rowW zs)), (10, ⟨some g10, 25, (wc (atX S ((zs.length : Nat) : Int) n))⟩), (100, ⟨some g, 89, stkM (S) (((zs.length : Nat) : Int))⟩)]) ?_ ?_
          · -- up to where the ways meet
            refine T.seq ?_
            refine T.text [.l, .l] rfl ?_
            refine J.move rfl rfl ?_
            refine J.eql rfl rfl rfl rfl ?_
            refine J.end ?_
            refine X.then ?_
            refine T.cond_dec rfl (fun h14 => ?_) (fun h14 => ?_)
            · obtain ⟨i, hi⟩ : ∃ i : Nat, ((zs.length : Nat) : Int) - (n + 1) = (i : Int) := ⟨(((zs.length : Nat) : Int) - (n + 1)).toNat, by omega⟩
              obtain ⟨j, hj⟩ : ∃ j : Nat, ((zs.length : Nat) : Int) - (n + m + 1) = (j : Int) := ⟨(((zs.length : Nat) : Int) - (n + m + 1)).toNat, by omega⟩
              have hS1 : (swp S i j).length = 1024 := by rw [swp_length]; exact hS
              have hyes := h14
              refine T.asE 100 ⟨some g, 89, stkM (swp S i j) (((zs.length : Nat) : Int))⟩ rfl (by rw [exS_yes h14, ix_of hi (by omega), ix_of hj (by omega)]) ?_
              refine T.seq ?_
              refine T.text [.l, .l, .l, .l, .l, .l, .l, .l, .l, .l] rfl ?_
              refine J.move rfl rfl ?_
              refine J.move rfl rfl ?_
              refine J.add rfl rfl rfl (by exact i64_ok _ (by omega)) ?_
              refine J.call0 (k := .l) trivial fok21 rfl rfl (fun w hw => Sa.At w g _ _ hS1 (by omega) (hw.blkCs (k := 100) rfl) _ (by omega)) ?_
              refine J.move rfl rfl ?_
              refine J.extract rfl rfl rfl ?_
              refine J.as 160 (W (zs.getD j 0)) rfl (by rw [atX_yes ((atE_iff _ _).2 (by omega)), ix_of hi (by omega), swp_i (by omega) (by omega), hq j (by omega)]) ?_
              refine J.extract rfl rfl rfl ?_
              refine J.alloc 18 rfl zero25 [.int .u64 0, .int .u64 0, .int .u64 0, .int .u64 0] rfl rfl (fun g18 hg18 => ?_)
              refine J.store 18 rfl rfl rfl rfl (wc (zs.getD j 0)) rfl sz25 (by first | decide | exact Nat.le_refl _ | exact Nat.le_of_ble_eq_true rfl | (simp [rowN]; done) | (simp [rowN]; omega)) (by first | exact rowN_one _ _ | (simp; done) | (intro u hu; simp at hu; subst hu; rfl) | (intro u hu; simp at hu; rcases hu with rfl | rfl <;> rfl)) (by first | decide | exact Nat.zero_lt_succ _ | simp) trivial (wc (zs.getD j 0)) rfl ?_
              refine J.assign rfl rfl ?_
              refine J.end ?_
              refine X.then ?_
              refine T.seq ?_
              refine T.text [.l, .l, .l, .l, .l, .l, .l, .l, .l, .l, .l, .l] rfl ?_
              refine J.move rfl rfl ?_
              refine J.move rfl rfl ?_
              refine J.move rfl rfl ?_
              refine J.add rfl rfl rfl (by exact i64_ok _ (by omega)) ?_
              refine J.add rfl rfl rfl (by exact i64_ok _ (by omega)) ?_
              refine J.call0 (k := .l) trivial fok21 rfl rfl (fun w hw => Sa.At w g _ _ hS1 (by omega) (hw.blkCs (k := 100) rfl) _ (by omega)) ?_
              refine J.move rfl rfl ?_
              refine J.extract rfl rfl rfl ?_
              refine J.as 169 (W (zs.getD i 0)) rfl (by rw [atX_yes ((atE_iff _ _).2 (by omega)), ix_of hj (by omega), swp_j (by omega), hq i (by omega)]) ?_
              refine J.extract rfl rfl rfl ?_
              refine J.alloc 20 rfl zero25 [.int .u64 0, .int .u64 0, .int .u64 0, .int .u64 0] rfl rfl (fun g20 hg20 => ?_)
              refine J.store 20 rfl rfl rfl rfl (wc (zs.getD i 0)) rfl sz25 (by first | decide | exact Nat.le_refl _ | exact Nat.le_of_ble_eq_true rfl | (simp [rowN]; done) | (simp [rowN]; omega)) (by first | exact rowN_one _ _ | (simp; done) | (intro u hu; simp at hu; subst hu; rfl) | (intro u hu; simp at hu; rcases hu with rfl | rfl <;> rfl)) (by first | decide | exact Nat.zero_lt_succ _ | simp) trivial (wc (zs.getD i 0)) rfl ?_
              refine J.assign rfl rfl ?_
              refine J.end ?_
              refine X.then ?_
              refine T.seq ?_
              refine T.text [.l, .l, .l, .l, .l] rfl ?_
              refine J.move rfl rfl ?_
              refine J.move rfl rfl ?_
              refine J.move rfl rfl ?_
              refine J.callMut 100 rfl rfl fok29 rfl rfl (fun w hw => Sa.Exchange w g _ _ hS1 (by omega) (hw.live 100 _ rfl) n hn m hm) ?_
              refine J.assign rfl rfl ?_
              refine J.end ?_
              refine X.then ?_
              refine T.seq ?_
              refine T.draw [] [(0, .q), (1, .g), (2, .g), (3, .g), (4, .g), (5, .g), (6, .g), (7, .g), (8, .g), (9, .q), (10, .g), (11, .g), (12, .q), (13, .g), (14, .g), (15, .g), (16, .g), (17, .g), (18, .g), (19, .q), (20, .g), (21, .g), (22, .g), (23, .g), (24, .g), (25, .g)] (by kernel_rfl) (by kernel_rfl) ?_ rfl (by repeat (first | exact Sub.nil _ | refine Sub.cons (by first | rfl | (rw [dgs_zero]; rfl) | (rw [List.drop_length]; rfl) | (simp; done) | (congr 2; omega) | (congr 3; omega)) ?_))
              refine J.loadN (k := .q) trivial 18 rfl rfl agg25 (wc (zs.getD j 0)) rfl rfl rfl ?_
              refine J.move rfl rfl ?_
              refine J.move rfl rfl ?_
              refine J.move rfl rfl ?_
              refine J.sub' rfl rfl rfl (by exact i64_ok _ (by omega)) ?_
              refine J.move rfl rfl ?_
              refine J.sub' rfl rfl rfl (by exact i64_ok _ (by omega)) ?_
              refine J.sub' rfl rfl rfl (by exact i64_ok _ (by omega)) ?_
              refine J.as 182 (.int .i64 (j : Int)) rfl (by first | (congr 1; done) | (congr 1; omega)) ?_
              refine J.indexRow sl32 rfl (hr.some (by omega)) rfl (by omega) (by omega) (by first | exact Int.toNat_natCast _ | rfl) rfl ?_
              refine J.loadW (k := .q) trivial 101 rfl rfl agg25 (by first | rfl | with_reducible exact rowW_seg0 _ _ _ (by omega) | with_reducible exact rowW_seg00 _ _ (by omega) | with_reducible exact rowW_segs _ _ _ (by omega) | with_reducible exact rowW_seg _ _ (by omega) | with_reducible exact rowW_segb _ _ _ (by omega) | exact rowW_seg _ _ (by omega) | exact rowW_segs _ _ _ (by omega)) rfl ?_
              refine J.neqW eqw25 rfl rfl rfl ?_
              refine J.as 185 (.bool false) rfl (by rw [decide_eq_false (fun h => h (by rfl))]) ?_
              refine J.move rfl rfl ?_
              refine J.yes rfl rfl ?_
              refine J.loadN (k := .q) trivial 20 rfl rfl agg25 (wc (zs.getD i 0)) rfl rfl rfl ?_
              refine J.yes rfl rfl ?_
              refine J.move rfl rfl ?_
              refine J.yes rfl rfl ?_
              refine J.move rfl rfl ?_
              refine J.yes rfl rfl ?_
              refine J.move rfl rfl ?_
              refine J.yes rfl rfl ?_
              refine J.sub' rfl rfl rfl (by exact i64_ok _ (by omega)) ?_
              refine J.yes rfl rfl ?_
              refine J.sub' rfl rfl rfl (by exact i64_ok _ (by omega)) ?_
              refine J.as 192 (.int .i64 (i : Int)) rfl (by first | (congr 1; done) | (congr 1; omega)) ?_
              refine J.yes rfl rfl ?_
              refine J.indexRow sl32 rfl (hr.some (by omega)) rfl (by omega) (by omega) (by first | exact Int.toNat_natCast _ | rfl) rfl ?_
              refine J.yes rfl rfl ?_
              refine J.loadW (k := .q) trivial 101 rfl rfl agg25 (by first | rfl | with_reducible exact rowW_seg0 _ _ _ (by omega) | with_reducible exact rowW_seg00 _ _ (by omega) | with_reducible exact rowW_segs _ _ _ (by omega) | with_reducible exact rowW_seg _ _ (by omega) | with_reducible exact rowW_segb _ _ _ (by omega) | exact rowW_seg _ _ (by omega) | exact rowW_segs _ _ _ (by omega)) rfl ?_
              refine J.yes rfl rfl ?_
              refine J.neqW eqw25 rfl rfl rfl ?_
              refine J.as 195 (.bool false) rfl (by rw [decide_eq_false (fun h => h (by rfl))]) ?_
              refine J.pick_f rfl rfl rfl ?_
              refine J.move rfl rfl ?_
              refine J.yes rfl rfl ?_
              refine J.move rfl rfl ?_
              refine J.yes rfl rfl ?_
              refine J.neq rfl rfl rfl (decide_eq_false (fun h => h (by omega))) ?_
              refine J.pick_f rfl rfl rfl ?_
              refine J.end ?_
              refine X.then ?_
              refine T.cond_false rfl ?_
              refine T.skip ?_
              refine X.asE 100 ⟨some g, 89, stkM (S) (((zs.length : Nat) : Int))⟩ rfl (by rw [exS_yes hyes, ix_of hi (by omega), ix_of hj (by omega), swp_again (by omega) (by omega)]) ?_
              exact X.at () trivial (by repeat (first | exact Sub.nil _ | refine Sub.cons (by first | rfl | (rw [dgs_zero]; rfl) | (rw [List.drop_length]; rfl) | (simp; done) | (congr 2; omega) | (congr 3; omega)) ?_)) (by repeat (first | exact Sub.nil _ | refine Sub.cons (by first | rfl | (rw [dgs_zero]; rfl) | (rw [List.drop_length]; rfl) | (simp; done) | (congr 2; omega) | (congr 3; omega)) ?_))
            · have hno := h14
              refine T.skip ?_
              refine X.asE 100 ⟨some g, 89, stkM (S) (((zs.length : Nat) : Int))⟩ rfl (by rw [exS_no hno]) ?_
              exact X.at () trivial (by repeat (first | exact Sub.nil _ | refine Sub.cons (by first | rfl | (rw [dgs_zero]; rfl) | (rw [List.drop_length]; rfl) | (simp; done) | (congr 2; omega) | (congr 3; omega)) ?_)) (by repeat (first | exact Sub.nil _ | refine Sub.cons (by first | rfl | (rw [dgs_zero]; rfl) | (rw [List.drop_length]; rfl) | (simp; done) | (congr 2; omega) | (congr 3; omega)) ?_))
          · rintro _ -
            refine T.seq ?_
            refine T.seq ?_
            refine T.text [.l, .l, .l, .l, .l] rfl ?_
            refine J.move rfl rfl ?_
            refine J.callRowW 202 rfl (t := 25) fok23 rfl rfl (fun w hw => Sa.Words w g S _ hS (by omega) (hw.blkCs (k := 100) rfl)) (fun zs202 r202 hz202 hr202 => ?_)
            refine J.move rfl rfl ?_
            refine J.call0 (k := .l) trivial fok22 rfl rfl (fun w hw => Aw.sameWords w _ _ _ (hw.rowCs (k := 202) rfl) _ _ _ (hw.rowCs (k := 101) rfl) (hz202.trans (words_full hzk hq)) (by rw [hz202, wordsS_length]; omega)) ?_
            refine J.not rfl rfl rfl ?_
            refine J.end ?_
            refine X.then ?_
            refine T.cond_false rfl ?_
            refine T.skip ?_
            refine X.then ?_
            refine T.seq ?_
            refine T.text [.l, .l, .l, .l] rfl ?_
            refine J.move rfl rfl ?_
            refine J.move rfl rfl ?_
            refine J.callMut 100 rfl rfl fok30 rfl rfl (fun w hw => Sa.Dup w g S _ hS (by omega) (hw.live 100 _ rfl) n hn) ?_
            refine J.assign rfl rfl ?_
            refine J.end ?_
            refine X.then ?_
            refine T.meet (ι := Unit) (fun (_ : Unit) => True) (fun (_ : Unit) => [(0, .slice A0 xs0.length c0), (1, .int .i64 n), (2, .int .i64 m), (6, .bool false), (7, .pointer (some ⟨g, 0, none⟩)), (8, r.val zs.length), (9, .int .i64 ((zs.length : Nat) : Int)), (23, .int .i64 ((dupE ((zs.length : Nat) : Int) n : Nat) : Int))]) (fun (_ : Unit) => [(101, r.ent 25 (rowW zs)), (10, ⟨some g10, 25, (wc (atX S ((zs.length : Nat) : Int) n))⟩), (100, ⟨some g, 89, stkM (dupS S ((zs.length : Nat) : Int) n) (dupN ((zs.length : Nat) : Int) n)⟩), (202, r202.ent 25 (rowW zs202))]) ?_ ?_
            · -- up to where the ways meet
              refine T.seq ?_
              refine T.text [.l, .l, .l, .l, .l, .l, .l, .l, .l, .l, .l, .l, .l, .l] rfl ?_
              refine J.move rfl rfl ?_
              refine J.eql rfl rfl rfl rfl ?_
              refine J.move rfl rfl ?_
              refine J.geq rfl rfl rfl rfl ?_
              refine J.move rfl rfl ?_
              refine J.split 213 rfl (fun h15 => ?_) (fun h15 => ?_)
              · skip
                refine J.yes rfl rfl ?_
                refine J.move rfl rfl ?_
                refine J.yes rfl rfl ?_
                refine J.move rfl rfl ?_
                refine J.yes rfl rfl ?_
                refine J.leq rfl rfl rfl rfl ?_
                refine J.pick_t rfl rfl rfl ?_
                refine J.move rfl rfl ?_
                refine J.split 218 rfl (fun h16 => ?_) (fun h16 => ?_)
                · skip
                  refine J.yes rfl rfl ?_
                  refine J.move rfl rfl ?_
                  refine J.yes rfl rfl ?_
                  refine J.lss rfl rfl rfl rfl ?_
                  refine J.pick_t rfl rfl rfl ?_
                  refine J.neqB Try.underlying4 rfl rfl rfl (by first | exact neq_iff (by omega) | exact neq_no (by omega)) ?_
                  refine J.end ?_
                  refine X.then ?_
                  refine T.cond_false rfl ?_
                  refine T.skip ?_
                  exact X.at () trivial (by repeat (first | exact Sub.nil _ | refine Sub.cons (by first | rfl | (rw [dgs_zero]; rfl) | (rw [List.drop_length]; rfl) | (simp; done) | (congr 2; omega) | (congr 3; omega)) ?_)) (by repeat (first | exact Sub.nil _ | refine Sub.cons (by first | rfl | (rw [dgs_zero]; rfl) | (rw [List.drop_length]; rfl) | (simp; done) | (congr 2; omega) | (congr 3; omega)) ?_))
                · skip
                  refine J.no rfl rfl rfl rfl ?_
                  refine J.no rfl rfl rfl rfl ?_
                  refine J.pick_f rfl rfl rfl ?_
                  refine J.neqB Try.underlying4 rfl rfl rfl (by first | exact neq_iff (by omega) | exact neq_no (by omega)) ?_
                  refine J.end ?_
                  refine X.then ?_
                  refine T.cond_false rfl ?_
                  refine T.skip ?_
                  exact X.at () trivial (by repeat (first | exact Sub.nil _ | refine Sub.cons (by first | rfl | (rw [dgs_zero]; rfl) | (rw [List.drop_length]; rfl) | (simp; done) | (congr 2; omega) | (congr 3; omega)) ?_)) (by repeat (first | exact Sub.nil _ | refine Sub.cons (by first | rfl | (rw [dgs_zero]; rfl) | (rw [List.drop_length]; rfl) | (simp; done) | (congr 2; omega) | (congr 3; omega)) ?_))
              · skip
                refine J.no rfl rfl rfl rfl ?_
                refine J.no rfl rfl rfl rfl ?_
                refine J.no rfl rfl rfl rfl ?_
                refine J.pick_f rfl rfl rfl ?_
                refine J.move rfl rfl ?_
                refine J.no rfl rfl rfl rfl ?_
                refine J.no rfl rfl rfl rfl ?_
                refine J.pick_f rfl rfl rfl ?_
                refine J.neqB Try.underlying4 rfl rfl rfl (by first | exact neq_iff (by omega) | exact neq_no (by omega)) ?_
                refine J.end ?_
                refine X.then ?_
                refine T.cond_false rfl ?_
                refine T.skip ?_
                exact X.at () trivial (by repeat (first | exact Sub.nil _ | refine Sub.cons (by first | rfl | (rw [dgs_zero]; rfl) | (rw [List.drop_length]; rfl) | (simp; done) | (congr 2; omega) | (congr 3; omega)) ?_)) (by repeat (first | exact Sub.nil _ | refine Sub.cons (by first | rfl | (rw [dgs_zero]; rfl) | (rw [List.drop_length]; rfl) | (simp; done) | (congr 2; omega) | (congr 3; omega)) ?_))
            · rintro _ -
              refine T.meet (ι := List Nat) (fun (S2 : List Nat) => S2.length = 1024 ∧ ∀ q, q < zs.length → S2.getD q 0 = zs.getD q 0) (fun (S2 : List Nat) => [(0, .slice A0 xs0.length c0), (1, .int .i64 n), (2, .int .i64 m), (6, .bool false), (7, .pointer (some ⟨g, 0, none⟩)), (8, r.val zs.length), (9, .int .i64 ((zs.length : Nat) : Int))]) (fun (S2 : List Nat) => [(101, r.ent 25 (rowW zs)), (10, ⟨some g10, 25, (wc (atX S ((zs.length : Nat) : Int) n))⟩), (202, r202.ent 25 (rowW zs202)), (100, ⟨some g, 89, stkM (S2) (((zs.length : Nat) : Int))⟩)]) ?_ ?_
              · -- up to where the ways meet
                refine T.seq ?_
                refine T.text [.l, .l] rfl ?_
                refine J.move rfl rfl ?_
                refine J.eql rfl rfl rfl rfl ?_
                refine J.end ?_
                refine X.then ?_
                refine T.cond_dec rfl (fun h17 => ?_) (fun h17 => ?_)
                · obtain ⟨u, hu⟩ : ∃ u : Nat, ((zs.length : Nat) : Int) - n = (u : Int) := ⟨(((zs.length : Nat) : Int) - n).toNat, by omega⟩
                  have hS1 : (S.set zs.length (S.getD u 0)).length = 1024 := by rw [List.length_set]; exact hS
                  refine T.asE 100 ⟨some g, 89, stkM (S.set zs.length (S.getD u 0)) (((zs.length : Nat) : Int) + 1)⟩ rfl (by rw [(dup_yes (S := S) h17).1, (dup_yes (S := S) h17).2, ix_of (k := zs.length) rfl (by omega), ix_of hu (by omega)]) ?_
                  refine T.seq ?_
                  refine T.text [.l, .l, .l, .l, .l, .l, .l, .l] rfl ?_
                  refine J.move rfl rfl ?_
                  refine J.callMut 100 rfl rfl fok24 rfl rfl (fun w hw => Sa.Pop w g _ _ hS1 (by omega) (hw.live 100 _ rfl)) ?_
                  refine J.move rfl rfl ?_
                  refine J.extract rfl rfl rfl ?_
                  refine J.as 228 (W (zs.getD u 0)) rfl (by unfold popX; rw [if_neg (by omega), ix_of (k := zs.length) (by omega) (by omega), getD_set S zs.length zs.length (S.getD u 0) (by omega), if_pos rfl, hq u (by omega)]) ?_
                  refine J.extract rfl rfl rfl ?_
                  refine J.alloc 24 rfl zero25 [.int .u64 0, .int .u64 0, .int .u64 0, .int .u64 0] rfl rfl (fun g24 hg24 => ?_)
                  refine J.store 24 rfl rfl rfl rfl (wc (zs.getD u 0)) rfl sz25 (by first | decide | exact Nat.le_refl _ | exact Nat.le_of_ble_eq_true rfl | (simp [rowN]; done) | (simp [rowN]; omega)) (by first | exact rowN_one _ _ | (simp; done) | (intro u hu; simp at hu; subst hu; rfl) | (intro u hu; simp at hu; rcases hu with rfl | rfl <;> rfl)) (by first | decide | exact Nat.zero_lt_succ _ | simp) trivial (wc (zs.getD u 0)) rfl ?_
                  refine J.assign rfl rfl ?_
                  refine J.end ?_
                  refine X.then ?_
                  refine T.seq ?_
                  refine T.draw [] [(0, .q), (1, .g), (2, .g), (3, .g), (4, .g), (5, .g), (6, .q), (7, .g)] (by kernel_rfl) (by kernel_rfl) ?_ rfl (by repeat (first | exact Sub.nil _ | refine Sub.cons (by first | rfl | (rw [dgs_zero]; rfl) | (rw [List.drop_length]; rfl) | (simp; done) | (congr 2; omega) | (congr 3; omega)) ?_))
                  refine J.loadN (k := .q) trivial 24 rfl rfl agg25 (wc (zs.getD u 0)) rfl rfl rfl ?_
                  refine J.move rfl rfl ?_
                  refine J.move rfl rfl ?_
                  refine J.move rfl rfl ?_
                  refine J.sub' rfl rfl rfl (by exact i64_ok _ (by omega)) ?_
                  refine J.as 234 (.int .i64 (u : Int)) rfl (by first | (congr 1; done) | (congr 1; omega)) ?_
                  refine J.indexRow sl32 rfl (hr.some (by omega)) rfl (by omega) (by omega) (by first | exact Int.toNat_natCast _ | rfl) rfl ?_
                  refine J.loadW (k := .q) trivial 101 rfl rfl agg25 (by first | rfl | with_reducible exact rowW_seg0 _ _ _ (by omega) | with_reducible exact rowW_seg00 _ _ (by omega) | with_reducible exact rowW_segs _ _ _ (by omega) | with_reducible exact rowW_seg _ _ (by omega) | with_reducible exact rowW_segb _ _ _ (by omega) | exact rowW_seg _ _ (by omega) | exact rowW_segs _ _ _ (by omega)) rfl ?_
                  refine J.neqW eqw25 rfl rfl rfl ?_
                  refine J.as 237 (.bool false) rfl (by rw [decide_eq_false (fun h => h (by rfl))]) ?_
                  refine J.end ?_
                  refine X.then ?_
                  refine T.cond_false rfl ?_
                  refine T.skip ?_
                  refine X.asE 100 ⟨some g, 89, stkM (S.set zs.length (S.getD u 0)) (((zs.length : Nat) : Int))⟩ rfl (by congr 2; unfold popN; rw [if_neg (by omega)]; congr 2; omega) ?_
                  exact X.at (S.set zs.length (S.getD u 0)) ⟨hS1, fun q h => by rw [getD_set _ _ _ _ (by omega), if_neg (by omega)]; exact hq q h⟩ (by repeat (first | exact Sub.nil _ | refine Sub.cons (by first | rfl | (rw [dgs_zero]; rfl) | (rw [List.drop_length]; rfl) | (simp; done) | (congr 2; omega) | (congr 3; omega)) ?_)) (by repeat (first | exact Sub.nil _ | refine Sub.cons (by first | rfl | (rw [dgs_zero]; rfl) | (rw [List.drop_length]; rfl) | (simp; done) | (congr 2; omega) | (congr 3; omega)) ?_))
                · have hno := h17
                  refine T.skip ?_
                  refine X.asE 100 ⟨some g, 89, stkM (S) (((zs.length : Nat) : Int))⟩ rfl (by rw [(dup_no (S := S) hno).1, (dup_no (S := S) hno).2]) ?_
                  exact X.at S ⟨hS, hq⟩ (by repeat (first | exact Sub.nil _ | refine Sub.cons (by first | rfl | (rw [dgs_zero]; rfl) | (rw [List.drop_length]; rfl) | (simp; done) | (congr 2; omega) | (congr 3; omega)) ?_)) (by repeat (first | exact Sub.nil _ | refine Sub.cons (by first | rfl | (rw [dgs_zero]; rfl) | (rw [List.drop_length]; rfl) | (simp; done) | (congr 2; omega) | (congr 3; omega)) ?_))
              · rintro S2 ⟨hS2, hq2⟩
                refine T.seq ?_
                refine T.text [.l, .l, .l, .l, .l, .l, .l, .l] rfl ?_
                refine J.move rfl rfl ?_
                refine J.callRowW 239 rfl (t := 25) fok23 rfl rfl (fun w hw => Sa.Words w g S2 _ hS2 (by omega) (hw.blkCs (k := 100) rfl)) (fun zs239 r239 hz239 hr239 => ?_)
                refine J.move rfl rfl ?_
                refine J.call0 (k := .l) trivial fok22 rfl rfl (fun w hw => Aw.sameWords w _ _ _ (hw.rowCs (k := 239) rfl) _ _ _ (hw.rowCs (k := 101) rfl) (hz239.trans (words_full hzk hq2)) (by rw [hz239, wordsS_length]; omega)) ?_
                refine J.move rfl rfl ?_
                refine J.yes rfl rfl ?_
                refine J.call0 (k := .l) trivial fok25 rfl rfl (fun w hw => Aw.awake w) ?_
                refine J.pick_t rfl rfl rfl ?_
                refine J.assign rfl rfl ?_
                refine J.end ?_
                refine X.then ?_
                refine T.ret ?_
                exact X.ret1 rfl (RV.tmp rfl) (fun w' hw' => ⟨rfl, hw'.sub (Sub.nil _)⟩)
end Go.Proofs.Ytpkjbeebhdgleaa.Lc
