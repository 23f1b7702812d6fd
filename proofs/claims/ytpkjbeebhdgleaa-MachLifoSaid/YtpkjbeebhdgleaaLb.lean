/-
  Walks, printed by gen.py: what each function hands back, said of numbers.
  Conditions: those that each theorem bears.
-/
import Derived.Test.YtpkjbeebhdgleaaChecked
import Derived.Test.YtpkjbeebhdgleaaAw
set_option linter.unusedVariables false
set_option maxRecDepth 20000
namespace Go.Proofs.Ytpkjbeebhdgleaa.Lb
open Go Go.Fw

theorem fok18 : FnOk Try.prog 18 := FnOk.mk' Try.func18 (by kernel_rfl) rfl
theorem sz25 : SizeT Try.prog 25 4 := (by unfold SizeT; kernel_rfl)
theorem sl32 : SlT Try.prog 32 25 4 := ⟨Try.underlying32, sz25⟩
theorem agg25 : AggT Try.prog 25 4 := ⟨⟨_, Try.underlying25, rfl⟩, by kernel_rfl⟩
theorem fok19 : FnOk Try.prog 19 := FnOk.mk' Try.func19 (by kernel_rfl) rfl
theorem fok20 : FnOk Try.prog 20 := FnOk.mk' Try.func20 (by kernel_rfl) rfl
theorem el25 : ElT Try.prog 25 4 32 (.agg ([.int .u64 0, .int .u64 0, .int .u64 0, .int .u64 0]).toArray) := ⟨by kernel_rfl, rfl, by decide, by decide⟩
theorem fok21 : FnOk Try.prog 21 := FnOk.mk' Try.func21 (by kernel_rfl) rfl
theorem zero25 : ZeroT Try.prog 25 (.agg ([.int .u64 0, .int .u64 0, .int .u64 0, .int .u64 0]).toArray) := (by unfold ZeroT; kernel_rfl)
theorem sz23 : SizeT Try.prog 23 1 := (by unfold SizeT; kernel_rfl)
theorem arr25 : ArrT Try.prog 25 4 23 1 := ⟨Try.underlying25, sz23⟩
theorem one23 : OneT Try.prog 23 := ⟨⟨_, Try.underlying23, rfl⟩, by kernel_rfl⟩
theorem eqw25 : EqT Try.prog 25 := ⟨⟨23, arr25, one23, Try.underlying23⟩, by kernel_rfl⟩
theorem fok23 : FnOk Try.prog 23 := FnOk.mk' Try.func23 (by kernel_rfl) rfl
theorem fok22 : FnOk Try.prog 22 := FnOk.mk' Try.func22 (by kernel_rfl) rfl
theorem fok24 : FnOk Try.prog 24 := FnOk.mk' Try.func24 (by kernel_rfl) rfl
theorem fok25 : FnOk Try.prog 25 := FnOk.mk' Try.func25 (by kernel_rfl) rfl

set_option maxRecDepth 100000 in
set_option maxHeartbeats 2000000 in
theorem MachLifo (w : World) (A0 : Option Addr) (c0 : Nat) (xs0 : List Nat) (hc0 : Cs w A0 (rowW xs0)) (hb0 : xs0.length ≤ 9223372036854775807) :
    Calls Try.prog 4 [.slice A0 xs0.length c0].toArray w fun e w' => e = .returned (.bool true) ∧ WS w [] [] w' := by
  refine calls_of_T [] 123 [] Try.func4 rfl Try.ntmps4 (by simp) (WS.refl _ _) ?_
  refine T.seq ?_
  refine T.text [.l] rfl ?_
  refine J.assign rfl rfl ?_
  refine J.end ?_
  refine X.then ?_
  refine T.seq ?_
  refine T.text [.l, .l] rfl ?_
  refine J.callNew 14 rfl (t := 89) (cs := (stkM zstk 0)) fok18 rfl rfl (fun w hw => Sa.NewStack w) (fun g14 hg14 => ?_)
  refine J.assign rfl rfl ?_
  refine J.end ?_
  refine X.then ?_
  refine T.seq ?_
  refine T.seq ?_
  refine T.text [.l, .l] rfl ?_
  refine J.move rfl rfl ?_
  refine J.eqNil (by kernel_rfl) rfl rfl rfl rfl ?_
  refine J.end ?_
  refine X.then ?_
  refine T.cond_false rfl ?_
  refine T.skip ?_
  refine X.then ?_
  refine T.seq ?_
  refine T.text [.l] rfl ?_
  refine J.assign rfl rfl ?_
  refine J.end ?_
  refine X.then ?_
  refine T.seq ?_
  refine T.seq ?_
  refine T.text [.l] rfl ?_
  refine J.assign rfl rfl ?_
  refine J.end ?_
  refine X.then ?_
  refine T.block ?_
  refine T.addNil 4 25 ?_
  refine T.loop (ι := Nat × List Nat × RowIx) (fun ((i, S, r) : Nat × List Nat × RowIx) => i ≤ xs0.length ∧ i ≤ 1200 ∧ S.length = 1024 ∧ (∀ q, q < min i 1024 → S.getD q 0 = xs0.getD q 0) ∧ r.Ok 4 (xs0.take (min i 1024)).length) (fun ((i, S, r) : Nat × List Nat × RowIx) => [(0, .slice A0 xs0.length c0), (3, .pointer (some ⟨g14, 0, none⟩)), (4, r.val (xs0.take (min i 1024)).length), (5, .int .i64 (i : Int))]) (fun ((i, S, r) : Nat × List Nat × RowIx) => [(4, r.ent 25 (rowW (xs0.take (min i 1024)))), (14, ⟨some g14, 89, stkM S ((min i 1024 : Nat) : Int)⟩)]) (fun ((i, S, r) : Nat × List Nat × RowIx) => 1200 - i) ⟨0, zstk, RowIx.nil⟩ ⟨Nat.zero_le _, Nat.zero_le _, zstk_length, fun q hq => by omega, RowIx.nil_ok 4⟩ (by repeat (first | exact Sub.nil _ | refine Sub.cons (by first | rfl | (rw [hmm]; rfl) | (rw [hpp.2.2]; rfl)| (rw [dgs_zero]; rfl) | (rw [List.drop_length]; rfl) | (simp; done) | (congr 2; omega) | (congr 3; omega)) ?_)) (by repeat (first | exact Sub.nil _ | refine Sub.cons (by first | rfl | (rw [hmm]; rfl) | (rw [hpp.2.2]; rfl)| (rw [dgs_zero]; rfl) | (rw [List.drop_length]; rfl) | (simp; done) | (congr 2; omega) | (congr 3; omega)) ?_)) ?_
  rintro ⟨i, S, r⟩ ⟨hi, hi2, hS, hq, hr⟩
  try dsimp only at *
  have hlt : (xs0.take (min i 1024)).length = min i 1024 := by rw [List.length_take]; omega
  refine T.seq ?_
  refine T.seq ?_
  refine T.text [.l, .l, .l, .l, .l, .l, .l, .l] rfl ?_
  refine J.move rfl rfl ?_
  refine J.move rfl rfl ?_
  refine J.lenSl Try.underlying32 rfl rfl ?_
  refine J.lss rfl rfl rfl rfl ?_
  refine J.move rfl rfl ?_
  refine J.split 21 rfl (fun h1 => ?_) (fun h1 => ?_)
  · skip
    refine J.yes rfl rfl ?_
    refine J.move rfl rfl ?_
    refine J.yes rfl rfl ?_
    refine J.lss rfl rfl rfl rfl ?_
    refine J.pick_t rfl rfl rfl ?_
    refine J.end ?_
    refine X.then ?_
    refine T.cond_dec rfl (fun h2 => ?_) (fun h2 => ?_)
    · skip
      refine T.skip ?_
      refine X.then ?_
      refine T.seq ?_
      refine T.block ?_
      refine T.seq ?_
      refine T.text [.l, .l, .l, .l, .l, .l, .l] rfl ?_
      refine J.move rfl rfl ?_
      refine J.move rfl rfl ?_
      refine J.move rfl rfl ?_
      refine J.indexSlI sl32 rfl (Cs.isSomeW hc0 (by omega)) rfl (by omega) (by omega) (by first | exact Int.toNat_natCast _ | rfl) rfl ?_
      refine J.loadIW (k := .l) trivial hc0 (off_nil _) rfl agg25 (by first | rfl | with_reducible exact rowW_seg0 _ _ _ (by omega) | with_reducible exact rowW_seg00 _ _ (by omega) | with_reducible exact rowW_segs _ _ _ (by omega) | with_reducible exact rowW_seg _ _ (by omega) | with_reducible exact rowW_segb _ _ _ (by omega) | exact rowW_seg _ _ (by omega) | exact rowW_segs _ _ _ (by omega)) rfl ?_
      refine J.callMut 14 rfl rfl fok19 rfl rfl (fun w hw => Sa.Push w _ _ _ hS (by omega) (hw.live 14 _ rfl) _) ?_
      refine J.assign rfl rfl ?_
      refine J.end ?_
      refine X.then ?_
      refine T.seq ?_
      refine T.seq ?_
      refine T.text [.l, .l, .l] rfl ?_
      refine J.move rfl rfl ?_
      refine J.lenSl Try.underlying32 rfl rfl ?_
      refine J.eql rfl rfl rfl rfl ?_
      refine J.end ?_
      refine X.then ?_
      refine T.cond_dec rfl (fun h3 => ?_) (fun h3 => ?_)
      · have hmi : min i 1024 = 1024 := by omega
        have hmm : min (i + 1) 1024 = min i 1024 := by omega
        refine T.asE 14 ⟨some g14, 89, stkM S ((min (i + 1) 1024 : Nat) : Int)⟩ rfl (by rw [hmm, hmi]; rfl) ?_
        refine T.as 6 (.int .i64 91) rfl (by rw [hmi]; rfl) ?_
        refine T.seq ?_
        refine T.seq ?_
        refine T.text [.l, .l, .l, .l, .l, .l, .l] rfl ?_
        refine J.move rfl rfl ?_
        refine J.neq rfl rfl rfl (decide_eq_false (fun h => h rfl)) ?_
        refine J.move rfl rfl ?_
        refine J.yes rfl rfl ?_
        refine J.move rfl rfl ?_
        refine J.yes rfl rfl ?_
        refine J.call0 (k := .l) trivial fok20 rfl rfl (fun w hw => Sa.Len w g14 S _ hS (by omega) (hw.blkCs (k := 14) rfl)) ?_
        refine J.yes rfl rfl ?_
        refine J.neq rfl rfl rfl (decide_eq_false (fun h => h (by rw [hmm, hmi]; rfl))) ?_
        refine J.pick_f rfl rfl rfl ?_
        refine J.end ?_
        refine X.then ?_
        refine T.cond_false rfl ?_
        refine T.skip ?_
        refine X.then ?_
        refine T.exit ?_
        refine X.then_exit (X.inBlock_eq (X.then ?_))
        refine T.text [.l, .l, .l] rfl ?_
        refine J.move rfl rfl ?_
        refine J.add rfl rfl rfl (by first | exact add_nat _ 1 (by omega) | exact i64_ok _ (by omega) | exact rfl) ?_
        refine J.assign rfl rfl ?_
        refine J.end ?_
        exact X.round ⟨(i + 1), S, r⟩ ⟨by omega, by omega, hS, fun q h => hq q (by omega), by rw [hmm]; exact hr⟩ (by first | omega | (dsimp only; omega)) (by repeat (first | exact Sub.nil _ | refine Sub.cons (by first | rfl | (rw [hmm]; rfl) | (rw [hpp.2.2]; rfl)| (rw [dgs_zero]; rfl) | (rw [List.drop_length]; rfl) | (simp; done) | (congr 2; omega) | (congr 3; omega)) ?_)) (by repeat (first | exact Sub.nil _ | refine Sub.cons (by first | rfl | (rw [hmm]; rfl) | (rw [hpp.2.2]; rfl)| (rw [dgs_zero]; rfl) | (rw [List.drop_length]; rfl) | (simp; done) | (congr 2; omega) | (congr 3; omega)) ?_))
      · have hmi : min i 1024 = i := by omega
        have hmj : min (i + 1) 1024 = i + 1 := by omega
        have hix : ix (i : Nat) = i := by unfold ix; omega
        have hS2 : (S.set i (xs0.getD i 0)).length = 1024 := by rw [List.length_set]; exact hS
        refine T.asE 14 ⟨some g14, 89, stkM (S.set i (xs0.getD i 0)) ((min (i + 1) 1024 : Nat) : Int)⟩ rfl (by rw [hmi, hmj]; unfold pushS pushN; rw [if_neg (by omega), if_neg (by omega), hix]; simp) ?_
        refine T.as 6 (.int .i64 0) rfl (by rw [hmi]; unfold pushE; rw [if_neg (by omega)]; rfl) ?_
        have hts : (xs0.take (min (i + 1) 1024)) = (xs0.take (min i 1024)) ++ [(xs0.getD i 0)] := by rw [hmi, hmj]; exact take_succ_getD _ _ (by omega)
        have hax : atX (S.set i (xs0.getD i 0)) ((min (i + 1) 1024 : Nat) : Int) 1 = (xs0.getD i 0) ∧ atE ((min (i + 1) 1024 : Nat) : Int) 1 = 0 := by
          have h := at_ok (S := S.set i (xs0.getD i 0)) (n := ((min (i + 1) 1024 : Nat) : Int)) (m := 1) (by omega) (by omega)
          rw [h.1, h.2, show ix (((min (i + 1) 1024 : Nat) : Int) - 1) = i by unfold ix; omega, getD_set _ _ _ _ (by omega), if_pos rfl]; exact ⟨rfl, rfl⟩
        refine T.skip ?_
        refine X.then ?_
        refine T.seq ?_
        refine T.text [.l, .l, .l, .l, .l, .l, .l, .l] rfl ?_
        refine J.move rfl rfl ?_
        refine J.move rfl rfl ?_
        refine J.move rfl rfl ?_
        refine J.indexSlI sl32 rfl (Cs.isSomeW hc0 (by omega)) rfl (by omega) (by omega) (by first | exact Int.toNat_natCast _ | rfl) rfl ?_
        refine J.loadIW (k := .l) trivial hc0 (off_nil _) rfl agg25 (by first | rfl | with_reducible exact rowW_seg0 _ _ _ (by omega) | with_reducible exact rowW_seg00 _ _ (by omega) | with_reducible exact rowW_segs _ _ _ (by omega) | with_reducible exact rowW_seg _ _ (by omega) | with_reducible exact rowW_segb _ _ _ (by omega) | exact rowW_seg _ _ (by omega) | exact rowW_segs _ _ _ (by omega)) rfl ?_
        refine J.lit1 48 rfl Try.underlying32 el25 (by decide) rfl _ rfl rfl rfl (fun g48 hg48 => ?_)
        refine J.append 4 rfl Try.underlying32 el25 rfl hr (by rw [rowW_length]) rfl rfl rfl (fun w hw => (hw.blkCs (k := 48) rfl)) (rowN_one _ _) (by omega) (by unfold maxLen; omega) rfl (xs0.take (min (i + 1) 1024)).length (by rw [hts]; simp) (rowW (xs0.take (min (i + 1) 1024))) (by rw [hts, rowW_append, rowW_one']) (fun r49 hr49 => ?_)
        refine J.assign rfl rfl ?_
        refine J.end ?_
        refine X.then ?_
        refine T.seq ?_
        refine T.text [.l, .l, .l, .l, .l, .l, .l, .l] rfl ?_
        refine J.move rfl rfl ?_
        refine J.call0 (k := .l) trivial fok21 rfl rfl (fun w hw => Sa.At w g14 _ _ hS2 (by omega) (hw.blkCs (k := 14) rfl) 1 (by omega)) ?_
        refine J.move rfl rfl ?_
        refine J.extract rfl rfl rfl ?_
        refine J.as 53 (W (xs0.getD i 0)) rfl (by rw [hax.1]) ?_
        refine J.extract rfl rfl rfl ?_
        refine J.as 54 (.int .i64 0) rfl (by rw [hax.2]; rfl) ?_
        refine J.alloc 7 rfl zero25 [.int .u64 0, .int .u64 0, .int .u64 0, .int .u64 0] rfl rfl (fun g7 hg7 => ?_)
        refine J.store 7 rfl rfl rfl rfl (wc (xs0.getD i 0)) rfl sz25 (by first | decide | exact Nat.le_refl _ | exact Nat.le_of_ble_eq_true rfl | (simp [rowN]; done) | (simp [rowN]; omega)) (by first | exact rowN_one _ _ | (simp; done) | (intro u hu; simp at hu; subst hu; rfl) | (intro u hu; simp at hu; rcases hu with rfl | rfl <;> rfl)) (by first | decide | exact Nat.zero_lt_succ _ | simp) trivial (wc (xs0.getD i 0)) rfl ?_
        refine J.assign rfl rfl ?_
        refine J.end ?_
        refine X.then ?_
        refine T.seq ?_
        refine T.draw [] [(0, .g), (1, .g), (2, .g), (3, .g), (4, .g), (5, .g), (6, .g), (7, .q), (8, .g), (9, .g), (10, .g), (11, .q), (12, .g), (13, .g), (14, .g), (15, .g), (16, .q), (17, .g), (18, .g), (19, .g), (20, .g)] (by kernel_rfl) (by kernel_rfl) ?_ rfl (by repeat (first | exact Sub.nil _ | refine Sub.cons (by first | rfl | (rw [hmm]; rfl) | (rw [hpp.2.2]; rfl)| (rw [dgs_zero]; rfl) | (rw [List.drop_length]; rfl) | (simp; done) | (congr 2; omega) | (congr 3; omega)) ?_))
        refine J.move rfl rfl ?_
        refine J.neq rfl rfl rfl (decide_eq_false (fun h => h rfl)) ?_
        refine J.move rfl rfl ?_
        refine J.yes rfl rfl ?_
        refine J.move rfl rfl ?_
        refine J.yes rfl rfl ?_
        refine J.neq rfl rfl rfl (decide_eq_false (fun h => h rfl)) ?_
        refine J.pick_f rfl rfl rfl ?_
        refine J.move rfl rfl ?_
        refine J.yes rfl rfl ?_
        refine J.loadN (k := .q) trivial 7 rfl rfl agg25 (wc (xs0.getD i 0)) rfl rfl rfl ?_
        refine J.yes rfl rfl ?_
        refine J.move rfl rfl ?_
        refine J.yes rfl rfl ?_
        refine J.move rfl rfl ?_
        refine J.yes rfl rfl ?_
        refine J.indexSlI sl32 rfl (Cs.isSomeW hc0 (by omega)) rfl (by omega) (by omega) (by first | exact Int.toNat_natCast _ | rfl) rfl ?_
        refine J.yes rfl rfl ?_
        refine J.loadIW (k := .q) trivial hc0 (off_nil _) rfl agg25 (by first | rfl | with_reducible exact rowW_seg0 _ _ _ (by omega) | with_reducible exact rowW_seg00 _ _ (by omega) | with_reducible exact rowW_segs _ _ _ (by omega) | with_reducible exact rowW_seg _ _ (by omega) | with_reducible exact rowW_segb _ _ _ (by omega) | exact rowW_seg _ _ (by omega) | exact rowW_segs _ _ _ (by omega)) rfl ?_
        refine J.yes rfl rfl ?_
        refine J.neqW eqw25 rfl rfl rfl ?_
        refine J.as 67 (.bool false) rfl (by rw [decide_eq_false (fun h => h rfl)]) ?_
        refine J.pick_f rfl rfl rfl ?_
        refine J.move rfl rfl ?_
        refine J.yes rfl rfl ?_
        refine J.move rfl rfl ?_
        refine J.yes rfl rfl ?_
        refine J.call0 (k := .q) trivial fok20 rfl rfl (fun w hw => Sa.Len w g14 _ _ hS2 (by omega) (hw.blkCs (k := 14) rfl)) ?_
        refine J.yes rfl rfl ?_
        refine J.move rfl rfl ?_
        refine J.yes rfl rfl ?_
        refine J.lenSl Try.underlying32 rfl rfl ?_
        refine J.yes rfl rfl ?_
        refine J.neq rfl rfl rfl (decide_eq_false (fun h => h (by congr 1; rw [List.length_take]; omega))) ?_
        refine J.pick_f rfl rfl rfl ?_
        refine J.end ?_
        refine X.then ?_
        refine T.cond_false rfl ?_
        refine T.skip ?_
        refine X.inBlock (X.then ?_)
        refine T.text [.l, .l, .l] rfl ?_
        refine J.move rfl rfl ?_
        refine J.add rfl rfl rfl (by first | exact add_nat _ 1 (by omega) | exact i64_ok _ (by omega) | exact rfl) ?_
        refine J.assign rfl rfl ?_
        refine J.end ?_
        exact X.round ⟨(i + 1), (S.set i (xs0.getD i 0)), r49⟩ ⟨by omega, by omega, hS2, fun q h => by
              rw [getD_set _ _ _ _ (by omega)]
              split
              · rename_i hiq; subst hiq; rfl
              · exact hq q (by omega), hr49⟩ (by first | omega | (dsimp only; omega)) (by repeat (first | exact Sub.nil _ | refine Sub.cons (by first | rfl | (rw [hmm]; rfl) | (rw [hpp.2.2]; rfl)| (rw [dgs_zero]; rfl) | (rw [List.drop_length]; rfl) | (simp; done) | (congr 2; omega) | (congr 3; omega)) ?_)) (by repeat (first | exact Sub.nil _ | refine Sub.cons (by first | rfl | (rw [hmm]; rfl) | (rw [hpp.2.2]; rfl)| (rw [dgs_zero]; rfl) | (rw [List.drop_length]; rfl) | (simp; done) | (congr 2; omega) | (congr 3; omega)) ?_))
    · skip
      refine T.exit ?_
      refine X.then_exit (X.then_exit (X.inBlock_eq (X.then ?_)))
      refine T.seq ?_
      refine T.seq ?_
      refine T.text [.l, .l, .l, .l, .l] rfl ?_
      refine J.move rfl rfl ?_
      refine J.callRowW 77 rfl (t := 25) fok23 rfl rfl (fun w hw => Sa.Words w g14 S _ hS (by omega) (hw.blkCs (k := 14) rfl)) (fun zs77 r77 hz77 hr77 => ?_)
      refine J.move rfl rfl ?_
      refine J.call0 (k := .l) trivial fok22 rfl rfl (fun w hw => Aw.sameWords w _ _ _ (hw.rowCs (k := 77) rfl) _ _ _ (hw.rowCs (k := 4) rfl) (hz77.trans (wordsS_of (by rw [hlt]; omega) (fun k hk => by rw [hlt] at hk; rw [getD_take _ _ _ (by omega), if_neg (by omega), ← hq k hk]; congr 1; unfold ix; omega)).symm) (by rw [hz77, wordsS_length]; omega)) ?_
      refine J.not rfl rfl rfl ?_
      refine J.end ?_
      refine X.then ?_
      refine T.cond_false rfl ?_
      refine T.skip ?_
      refine X.then ?_
      refine T.seq ?_
      refine T.seq ?_
      refine T.text [.l, .l, .l, .l] rfl ?_
      refine J.move rfl rfl ?_
      refine J.lenSl Try.underlying32 rfl rfl ?_
      refine J.sub' rfl rfl rfl (by exact i64_ok _ (by omega)) ?_
      refine J.assign rfl rfl ?_
      refine J.end ?_
      refine X.then ?_
      refine T.block ?_
      refine T.asE 14 ⟨some g14, 89, stkM S (((xs0.take (min i 1024)).length : Nat) : Int)⟩ rfl (by rw [hlt]) ?_
      refine T.loop (ι := Nat) (fun (j : Nat) => j ≤ (xs0.take (min i 1024)).length) (fun (j : Nat) => [(0, .slice A0 xs0.length c0), (3, .pointer (some ⟨g14, 0, none⟩)), (4, r.val (xs0.take (min i 1024)).length), (5, .int .i64 (i : Int)), (9, .int .i64 ((j : Int) - 1))]) (fun (j : Nat) => [(4, r.ent 25 (rowW (xs0.take (min i 1024)))), (77, r77.ent 25 (rowW zs77)), (14, ⟨some g14, 89, stkM S (j : Int)⟩)]) (fun (j : Nat) => j) (xs0.take (min i 1024)).length (Nat.le_refl _) (by repeat (first | exact Sub.nil _ | refine Sub.cons (by first | rfl | (rw [hmm]; rfl) | (rw [hpp.2.2]; rfl)| (rw [dgs_zero]; rfl) | (rw [List.drop_length]; rfl) | (simp; done) | (congr 2; omega) | (congr 3; omega)) ?_)) (by repeat (first | exact Sub.nil _ | refine Sub.cons (by first | rfl | (rw [hmm]; rfl) | (rw [hpp.2.2]; rfl)| (rw [dgs_zero]; rfl) | (rw [List.drop_length]; rfl) | (simp; done) | (congr 2; omega) | (congr 3; omega)) ?_)) ?_
      rintro j hj
      refine T.seq ?_
      refine T.seq ?_
      refine T.text [.l, .l] rfl ?_
      refine J.move rfl rfl ?_
      refine J.geq rfl rfl rfl rfl ?_
      refine J.end ?_
      refine X.then ?_
      refine T.cond_dec rfl (fun h4 => ?_) (fun h4 => ?_)
      · obtain ⟨u, rfl⟩ : ∃ u, j = u + 1 := ⟨j - 1, by omega⟩
        refine T.as 9 (.int .i64 (u : Int)) rfl (by congr 1; omega) ?_
        have hpp : popX S ((u + 1 : Nat) : Int) = xs0.getD u 0 ∧ popE ((u + 1 : Nat) : Int) = 0 ∧ popN ((u + 1 : Nat) : Int) = (u : Int) := by
          unfold popX popE popN
          rw [if_neg (by omega), if_neg (by omega), if_neg (by omega), show ix (((u + 1 : Nat) : Int) - 1) = u by unfold ix; omega, hq u (by omega)]
          exact ⟨rfl, rfl, by omega⟩
        refine T.skip ?_
        refine X.then ?_
        refine T.seq ?_
        refine T.block ?_
        refine T.seq ?_
        refine T.text [.l, .l, .l, .l, .l, .l, .l, .l] rfl ?_
        refine J.move rfl rfl ?_
        refine J.callMut 14 rfl rfl fok24 rfl rfl (fun w hw => Sa.Pop w g14 S _ hS (by omega) (hw.live 14 _ rfl)) ?_
        refine J.move rfl rfl ?_
        refine J.extract rfl rfl rfl ?_
        refine J.as 91 (W (xs0.getD u 0)) rfl (by rw [hpp.1]) ?_
        refine J.extract rfl rfl rfl ?_
        refine J.as 92 (.int .i64 0) rfl (by rw [hpp.2.1]; rfl) ?_
        refine J.alloc 10 rfl zero25 [.int .u64 0, .int .u64 0, .int .u64 0, .int .u64 0] rfl rfl (fun g10 hg10 => ?_)
        refine J.store 10 rfl rfl rfl rfl (wc (xs0.getD u 0)) rfl sz25 (by first | decide | exact Nat.le_refl _ | exact Nat.le_of_ble_eq_true rfl | (simp [rowN]; done) | (simp [rowN]; omega)) (by first | exact rowN_one _ _ | (simp; done) | (intro u hu; simp at hu; subst hu; rfl) | (intro u hu; simp at hu; rcases hu with rfl | rfl <;> rfl)) (by first | decide | exact Nat.zero_lt_succ _ | simp) trivial (wc (xs0.getD u 0)) rfl ?_
        refine J.assign rfl rfl ?_
        refine J.end ?_
        refine X.then ?_
        refine T.seq ?_
        refine T.draw [] [(0, .g), (1, .g), (2, .g), (3, .q), (4, .g), (5, .g), (6, .g), (7, .q), (8, .g), (9, .g)] (by kernel_rfl) (by kernel_rfl) ?_ rfl (by repeat (first | exact Sub.nil _ | refine Sub.cons (by first | rfl | (rw [hmm]; rfl) | (rw [hpp.2.2]; rfl)| (rw [dgs_zero]; rfl) | (rw [List.drop_length]; rfl) | (simp; done) | (congr 2; omega) | (congr 3; omega)) ?_))
        refine J.move rfl rfl ?_
        refine J.neq rfl rfl rfl (decide_eq_false (fun h => h rfl)) ?_
        refine J.move rfl rfl ?_
        refine J.yes rfl rfl ?_
        refine J.loadN (k := .q) trivial 10 rfl rfl agg25 (wc (xs0.getD u 0)) rfl rfl rfl ?_
        refine J.yes rfl rfl ?_
        refine J.move rfl rfl ?_
        refine J.yes rfl rfl ?_
        refine J.move rfl rfl ?_
        refine J.yes rfl rfl ?_
        refine J.indexRow sl32 rfl (hr.some (by omega)) rfl (by omega) (by omega) (by first | exact Int.toNat_natCast _ | rfl) rfl ?_
        refine J.yes rfl rfl ?_
        refine J.loadW (k := .q) trivial 4 rfl rfl agg25 (by first | rfl | with_reducible exact rowW_seg0 _ _ _ (by omega) | with_reducible exact rowW_seg00 _ _ (by omega) | with_reducible exact rowW_segs _ _ _ (by omega) | with_reducible exact rowW_seg _ _ (by omega) | with_reducible exact rowW_segb _ _ _ (by omega) | exact rowW_seg _ _ (by omega) | exact rowW_segs _ _ _ (by omega)) rfl ?_
        refine J.as 100 (W (xs0.getD u 0)) rfl (by rw [getD_take _ _ _ (by omega)]) ?_
        refine J.yes rfl rfl ?_
        refine J.neqW eqw25 rfl rfl rfl ?_
        refine J.as 101 (.bool false) rfl (by rw [decide_eq_false (fun h => h rfl)]) ?_
        refine J.pick_f rfl rfl rfl ?_
        refine J.end ?_
        refine X.then ?_
        refine T.cond_false rfl ?_
        refine T.skip ?_
        refine X.inBlock (X.then ?_)
        refine T.text [.l, .l, .l] rfl ?_
        refine J.move rfl rfl ?_
        refine J.sub' rfl rfl rfl (by first | exact sub_nat _ 1 (by omega) | exact i64_ok _ (by omega) | exact rfl) ?_
        refine J.assign rfl rfl ?_
        refine J.end ?_
        exact X.round u (by omega) (by first | omega | (dsimp only; omega)) (by repeat (first | exact Sub.nil _ | refine Sub.cons (by first | rfl | (rw [hmm]; rfl) | (rw [hpp.2.2]; rfl)| (rw [dgs_zero]; rfl) | (rw [List.drop_length]; rfl) | (simp; done) | (congr 2; omega) | (congr 3; omega)) ?_)) (by repeat (first | exact Sub.nil _ | refine Sub.cons (by first | rfl | (rw [hmm]; rfl) | (rw [hpp.2.2]; rfl)| (rw [dgs_zero]; rfl) | (rw [List.drop_length]; rfl) | (simp; done) | (congr 2; omega) | (congr 3; omega)) ?_))
      · obtain rfl : j = 0 := by omega
        refine T.exit ?_
        refine X.then_exit (X.then_exit (X.inBlock_eq (X.then ?_)))
        refine T.seq ?_
        refine T.text [.l, .l, .l, .l, .l, .l, .l, .l] rfl ?_
        refine J.move rfl rfl ?_
        refine J.callMut 14 rfl rfl fok24 rfl rfl (fun w hw => Sa.Pop w g14 S _ hS (by omega) (hw.live 14 _ rfl)) ?_
        refine J.move rfl rfl ?_
        refine J.extract rfl rfl rfl ?_
        refine J.as 106 (W 0) rfl rfl ?_
        refine J.extract rfl rfl rfl ?_
        refine J.as 107 (.int .i64 90) rfl rfl ?_
        refine J.alloc 12 rfl zero25 [.int .u64 0, .int .u64 0, .int .u64 0, .int .u64 0] rfl rfl (fun g12 hg12 => ?_)
        refine J.store 12 rfl rfl rfl rfl (wc 0) rfl sz25 (by first | decide | exact Nat.le_refl _ | exact Nat.le_of_ble_eq_true rfl | (simp [rowN]; done) | (simp [rowN]; omega)) (by first | exact rowN_one _ _ | (simp; done) | (intro u hu; simp at hu; subst hu; rfl) | (intro u hu; simp at hu; rcases hu with rfl | rfl <;> rfl)) (by first | decide | exact Nat.zero_lt_succ _ | simp) trivial (wc 0) rfl ?_
        refine J.assign rfl rfl ?_
        refine J.end ?_
        refine X.then ?_
        refine T.seq ?_
        refine T.text [.l, .l, .l, .l, .l, .l, .l, .l, .l, .l, .l, .l, .l, .l, .l, .l] rfl ?_
        refine J.move rfl rfl ?_
        refine J.eql rfl rfl rfl (decide_eq_true rfl) ?_
        refine J.move rfl rfl ?_
        refine J.yes rfl rfl ?_
        refine J.loadN (k := .l) trivial 12 rfl rfl agg25 (wc 0) rfl rfl rfl ?_
        refine J.yes rfl rfl ?_
        refine J.build rfl rfl (W 0) (fun w => by kernel_rfl) ?_
        refine J.yes rfl rfl ?_
        refine J.eqW eqw25 rfl rfl rfl ?_
        refine J.as 113 (.bool true) rfl (by rw [decide_eq_true rfl]) ?_
        refine J.pick_t rfl rfl rfl ?_
        refine J.move rfl rfl ?_
        refine J.yes rfl rfl ?_
        refine J.move rfl rfl ?_
        refine J.yes rfl rfl ?_
        refine J.call0 (k := .l) trivial fok20 rfl rfl (fun w hw => Sa.Len w g14 S (popN 0) hS (by decide) (hw.blkCs (k := 14) rfl)) ?_
        refine J.yes rfl rfl ?_
        refine J.eql rfl rfl rfl (decide_eq_true rfl) ?_
        refine J.pick_t rfl rfl rfl ?_
        refine J.move rfl rfl ?_
        refine J.yes rfl rfl ?_
        refine J.call0 (k := .l) trivial fok25 rfl rfl (fun w hw => Aw.awake w) ?_
        refine J.pick_t rfl rfl rfl ?_
        refine J.assign rfl rfl ?_
        refine J.end ?_
        refine X.then ?_
        refine T.ret ?_
        exact X.ret1 rfl (RV.tmp rfl) (fun w' hw' => ⟨rfl, hw'.sub (Sub.nil _)⟩)
  · skip
    refine J.no rfl rfl rfl rfl ?_
    refine J.no rfl rfl rfl rfl ?_
    refine J.pick_f rfl rfl rfl ?_
    refine J.end ?_
    refine X.then ?_
    refine T.cond_false rfl ?_
    refine T.exit ?_
    refine X.then_exit (X.then_exit (X.inBlock_eq (X.then ?_)))
    refine T.seq ?_
    refine T.seq ?_
    refine T.text [.l, .l, .l, .l, .l] rfl ?_
    refine J.move rfl rfl ?_
    refine J.callRowW 77 rfl (t := 25) fok23 rfl rfl (fun w hw => Sa.Words w g14 S _ hS (by omega) (hw.blkCs (k := 14) rfl)) (fun zs77 r77 hz77 hr77 => ?_)
    refine J.move rfl rfl ?_
    refine J.call0 (k := .l) trivial fok22 rfl rfl (fun w hw => Aw.sameWords w _ _ _ (hw.rowCs (k := 77) rfl) _ _ _ (hw.rowCs (k := 4) rfl) (hz77.trans (wordsS_of (by rw [hlt]; omega) (fun k hk => by rw [hlt] at hk; rw [getD_take _ _ _ (by omega), if_neg (by omega), ← hq k hk]; congr 1; unfold ix; omega)).symm) (by rw [hz77, wordsS_length]; omega)) ?_
    refine J.not rfl rfl rfl ?_
    refine J.end ?_
    refine X.then ?_
    refine T.cond_false rfl ?_
    refine T.skip ?_
    refine X.then ?_
    refine T.seq ?_
    refine T.seq ?_
    refine T.text [.l, .l, .l, .l] rfl ?_
    refine J.move rfl rfl ?_
    refine J.lenSl Try.underlying32 rfl rfl ?_
    refine J.sub' rfl rfl rfl (by exact i64_ok _ (by omega)) ?_
    refine J.assign rfl rfl ?_
    refine J.end ?_
    refine X.then ?_
    refine T.block ?_
    refine T.asE 14 ⟨some g14, 89, stkM S (((xs0.take (min i 1024)).length : Nat) : Int)⟩ rfl (by rw [hlt]) ?_
    refine T.loop (ι := Nat) (fun (j : Nat) => j ≤ (xs0.take (min i 1024)).length) (fun (j : Nat) => [(0, .slice A0 xs0.length c0), (3, .pointer (some ⟨g14, 0, none⟩)), (4, r.val (xs0.take (min i 1024)).length), (5, .int .i64 (i : Int)), (9, .int .i64 ((j : Int) - 1))]) (fun (j : Nat) => [(4, r.ent 25 (rowW (xs0.take (min i 1024)))), (77, r77.ent 25 (rowW zs77)), (14, ⟨some g14, 89, stkM S (j : Int)⟩)]) (fun (j : Nat) => j) (xs0.take (min i 1024)).length (Nat.le_refl _) (by repeat (first | exact Sub.nil _ | refine Sub.cons (by first | rfl | (rw [hmm]; rfl) | (rw [hpp.2.2]; rfl)| (rw [dgs_zero]; rfl) | (rw [List.drop_length]; rfl) | (simp; done) | (congr 2; omega) | (congr 3; omega)) ?_)) (by repeat (first | exact Sub.nil _ | refine Sub.cons (by first | rfl | (rw [hmm]; rfl) | (rw [hpp.2.2]; rfl)| (rw [dgs_zero]; rfl) | (rw [List.drop_length]; rfl) | (simp; done) | (congr 2; omega) | (congr 3; omega)) ?_)) ?_
    rintro j hj
    refine T.seq ?_
    refine T.seq ?_
    refine T.text [.l, .l] rfl ?_
    refine J.move rfl rfl ?_
    refine J.geq rfl rfl rfl rfl ?_
    refine J.end ?_
    refine X.then ?_
    refine T.cond_dec rfl (fun h5 => ?_) (fun h5 => ?_)
    · obtain ⟨u, rfl⟩ : ∃ u, j = u + 1 := ⟨j - 1, by omega⟩
      refine T.as 9 (.int .i64 (u : Int)) rfl (by congr 1; omega) ?_
      have hpp : popX S ((u + 1 : Nat) : Int) = xs0.getD u 0 ∧ popE ((u + 1 : Nat) : Int) = 0 ∧ popN ((u + 1 : Nat) : Int) = (u : Int) := by
        unfold popX popE popN
        rw [if_neg (by omega), if_neg (by omega), if_neg (by omega), show ix (((u + 1 : Nat) : Int) - 1) = u by unfold ix; omega, hq u (by omega)]
        exact ⟨rfl, rfl, by omega⟩
      refine T.skip ?_
      refine X.then ?_
      refine T.seq ?_
      refine T.block ?_
      refine T.seq ?_
      refine T.text [.l, .l, .l, .l, .l, .l, .l, .l] rfl ?_
      refine J.move rfl rfl ?_
      refine J.callMut 14 rfl rfl fok24 rfl rfl (fun w hw => Sa.Pop w g14 S _ hS (by omega) (hw.live 14 _ rfl)) ?_
      refine J.move rfl rfl ?_
      refine J.extract rfl rfl rfl ?_
      refine J.as 91 (W (xs0.getD u 0)) rfl (by rw [hpp.1]) ?_
      refine J.extract rfl rfl rfl ?_
      refine J.as 92 (.int .i64 0) rfl (by rw [hpp.2.1]; rfl) ?_
      refine J.alloc 10 rfl zero25 [.int .u64 0, .int .u64 0, .int .u64 0, .int .u64 0] rfl rfl (fun g10 hg10 => ?_)
      refine J.store 10 rfl rfl rfl rfl (wc (xs0.getD u 0)) rfl sz25 (by first | decide | exact Nat.le_refl _ | exact Nat.le_of_ble_eq_true rfl | (simp [rowN]; done) | (simp [rowN]; omega)) (by first | exact rowN_one _ _ | (simp; done) | (intro u hu; simp at hu; subst hu; rfl) | (intro u hu; simp at hu; rcases hu with rfl | rfl <;> rfl)) (by first | decide | exact Nat.zero_lt_succ _ | simp) trivial (wc (xs0.getD u 0)) rfl ?_
      refine J.assign rfl rfl ?_
      refine J.end ?_
      refine X.then ?_
      refine T.seq ?_
      refine T.draw [] [(0, .g), (1, .g), (2, .g), (3, .q), (4, .g), (5, .g), (6, .g), (7, .q), (8, .g), (9, .g)] (by kernel_rfl) (by kernel_rfl) ?_ rfl (by repeat (first | exact Sub.nil _ | refine Sub.cons (by first | rfl | (rw [hmm]; rfl) | (rw [hpp.2.2]; rfl)| (rw [dgs_zero]; rfl) | (rw [List.drop_length]; rfl) | (simp; done) | (congr 2; omega) | (congr 3; omega)) ?_))
      refine J.move rfl rfl ?_
      refine J.neq rfl rfl rfl (decide_eq_false (fun h => h rfl)) ?_
      refine J.move rfl rfl ?_
      refine J.yes rfl rfl ?_
      refine J.loadN (k := .q) trivial 10 rfl rfl agg25 (wc (xs0.getD u 0)) rfl rfl rfl ?_
      refine J.yes rfl rfl ?_
      refine J.move rfl rfl ?_
      refine J.yes rfl rfl ?_
      refine J.move rfl rfl ?_
      refine J.yes rfl rfl ?_
      refine J.indexRow sl32 rfl (hr.some (by omega)) rfl (by omega) (by omega) (by first | exact Int.toNat_natCast _ | rfl) rfl ?_
      refine J.yes rfl rfl ?_
      refine J.loadW (k := .q) trivial 4 rfl rfl agg25 (by first | rfl | with_reducible exact rowW_seg0 _ _ _ (by omega) | with_reducible exact rowW_seg00 _ _ (by omega) | with_reducible exact rowW_segs _ _ _ (by omega) | with_reducible exact rowW_seg _ _ (by omega) | with_reducible exact rowW_segb _ _ _ (by omega) | exact rowW_seg _ _ (by omega) | exact rowW_segs _ _ _ (by omega)) rfl ?_
      refine J.as 100 (W (xs0.getD u 0)) rfl (by rw [getD_take _ _ _ (by omega)]) ?_
      refine J.yes rfl rfl ?_
      refine J.neqW eqw25 rfl rfl rfl ?_
      refine J.as 101 (.bool false) rfl (by rw [decide_eq_false (fun h => h rfl)]) ?_
      refine J.pick_f rfl rfl rfl ?_
      refine J.end ?_
      refine X.then ?_
      refine T.cond_false rfl ?_
      refine T.skip ?_
      refine X.inBlock (X.then ?_)
      refine T.text [.l, .l, .l] rfl ?_
      refine J.move rfl rfl ?_
      refine J.sub' rfl rfl rfl (by first | exact sub_nat _ 1 (by omega) | exact i64_ok _ (by omega) | exact rfl) ?_
      refine J.assign rfl rfl ?_
      refine J.end ?_
      exact X.round u (by omega) (by first | omega | (dsimp only; omega)) (by repeat (first | exact Sub.nil _ | refine Sub.cons (by first | rfl | (rw [hmm]; rfl) | (rw [hpp.2.2]; rfl)| (rw [dgs_zero]; rfl) | (rw [List.drop_length]; rfl) | (simp; done) | (congr 2; omega) | (congr 3; omega)) ?_)) (by repeat (first | exact Sub.nil _ | refine Sub.cons (by first | rfl | (rw [hmm]; rfl) | (rw [hpp.2.2]; rfl)| (rw [dgs_zero]; rfl) | (rw [List.drop_length]; rfl) | (simp; done) | (congr 2; omega) | (congr 3; omega)) ?_))
    · obtain rfl : j = 0 := by omega
      refine T.exit ?_
      refine X.then_exit (X.then_exit (X.inBlock_eq (X.then ?_)))
      refine T.seq ?_
      refine T.text [.l, .l, .l, .l, .l, .l, .l, .l] rfl ?_
      refine J.move rfl rfl ?_
      refine J.callMut 14 rfl rfl fok24 rfl rfl (fun w hw => Sa.Pop w g14 S _ hS (by omega) (hw.live 14 _ rfl)) ?_
      refine J.move rfl rfl ?_
      refine J.extract rfl rfl rfl ?_
      refine J.as 106 (W 0) rfl rfl ?_
      refine J.extract rfl rfl rfl ?_
      refine J.as 107 (.int .i64 90) rfl rfl ?_
      refine J.alloc 12 rfl zero25 [.int .u64 0, .int .u64 0, .int .u64 0, .int .u64 0] rfl rfl (fun g12 hg12 => ?_)
      refine J.store 12 rfl rfl rfl rfl (wc 0) rfl sz25 (by first | decide | exact Nat.le_refl _ | exact Nat.le_of_ble_eq_true rfl | (simp [rowN]; done) | (simp [rowN]; omega)) (by first | exact rowN_one _ _ | (simp; done) | (intro u hu; simp at hu; subst hu; rfl) | (intro u hu; simp at hu; rcases hu with rfl | rfl <;> rfl)) (by first | decide | exact Nat.zero_lt_succ _ | simp) trivial (wc 0) rfl ?_
      refine J.assign rfl rfl ?_
      refine J.end ?_
      refine X.then ?_
      refine T.seq ?_
      refine T.text [.l, .l, .l, .l, .l, .l, .l, .l, .l, .l, .l, .l, .l, .l, .l, .l] rfl ?_
      refine J.move rfl rfl ?_
      refine J.eql rfl rfl rfl (decide_eq_true rfl) ?_
      refine J.move rfl rfl ?_
      refine J.yes rfl rfl ?_
      refine J.loadN (k := .l) trivial 12 rfl rfl agg25 (wc 0) rfl rfl rfl ?_
      refine J.yes rfl rfl ?_
      refine J.build rfl rfl (W 0) (fun w => by kernel_rfl) ?_
      refine J.yes rfl rfl ?_
      refine J.eqW eqw25 rfl rfl rfl ?_
      refine J.as 113 (.bool true) rfl (by rw [decide_eq_true rfl]) ?_
      refine J.pick_t rfl rfl rfl ?_
      refine J.move rfl rfl ?_
      refine J.yes rfl rfl ?_
      refine J.move rfl rfl ?_
      refine J.yes rfl rfl ?_
      refine J.call0 (k := .l) trivial fok20 rfl rfl (fun w hw => Sa.Len w g14 S (popN 0) hS (by decide) (hw.blkCs (k := 14) rfl)) ?_
      refine J.yes rfl rfl ?_
      refine J.eql rfl rfl rfl (decide_eq_true rfl) ?_
      refine J.pick_t rfl rfl rfl ?_
      refine J.move rfl rfl ?_
      refine J.yes rfl rfl ?_
      refine J.call0 (k := .l) trivial fok25 rfl rfl (fun w hw => Aw.awake w) ?_
      refine J.pick_t rfl rfl rfl ?_
      refine J.assign rfl rfl ?_
      refine J.end ?_
      refine X.then ?_
      refine T.ret ?_
      exact X.ret1 rfl (RV.tmp rfl) (fun w' hw' => ⟨rfl, hw'.sub (Sub.nil _)⟩)
end Go.Proofs.Ytpkjbeebhdgleaa.Lb
