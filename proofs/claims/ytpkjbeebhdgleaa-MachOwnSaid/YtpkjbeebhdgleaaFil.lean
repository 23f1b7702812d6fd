/-
  Walks, printed by gen.py: what each function hands back, said of numbers.
  Conditions: those that each theorem bears.
-/
import Derived.Test.YtpkjbeebhdgleaaChecked
import Derived.Test.YtpkjbeebhdgleaaFk
import Derived.Test.YtpkjbeebhdgleaaAw
set_option linter.unusedVariables false
set_option maxRecDepth 20000
namespace Go.Proofs.Ytpkjbeebhdgleaa.Fil
open Go Go.Fw

theorem fok18 : FnOk Try.prog 18 := FnOk.mk' Try.func18 (by kernel_rfl) rfl
theorem el25 : ElT Try.prog 25 4 32 (.agg ([.int .u64 0, .int .u64 0, .int .u64 0, .int .u64 0]).toArray) := ⟨by kernel_rfl, rfl, by decide, by decide⟩
theorem sz25 : SizeT Try.prog 25 4 := (by unfold SizeT; kernel_rfl)
theorem sl32 : SlT Try.prog 32 25 4 := ⟨Try.underlying32, sz25⟩
theorem agg25 : AggT Try.prog 25 4 := ⟨⟨_, Try.underlying25, rfl⟩, by kernel_rfl⟩
theorem fok19 : FnOk Try.prog 19 := FnOk.mk' Try.func19 (by kernel_rfl) rfl

set_option maxHeartbeats 1000000 in
theorem filled (w : World) (A0 : Option Addr) (c0 : Nat) (xs0 : List Nat) (hc0 : Cs w A0 (rowW xs0)) (hb0 : xs0.length ≤ 9223372036854775807) :
    Calls Try.prog 26 [.slice A0 xs0.length c0].toArray w fun e w' => FilledPost w 89 25 e w' := by
  refine calls_of_T [] 49 [] Try.func26 rfl Try.ntmps26 (by simp) (WS.refl _ _) ?_
  refine T.seq ?_
  refine T.text [.l, .l] rfl ?_
  refine J.assign rfl rfl ?_
  refine J.assign rfl rfl ?_
  refine J.end ?_
  refine X.then ?_
  refine T.seq ?_
  refine T.text [.l, .l] rfl ?_
  refine J.callNew 8 rfl (t := 89) (cs := (stkM zstk 0)) fok18 rfl rfl (fun w hw => Sa.NewStack w) (fun g8 hg8 => ?_)
  refine J.assign rfl rfl ?_
  refine J.end ?_
  refine X.then ?_
  refine T.seq ?_
  refine T.seq ?_
  refine T.text [.l, .l] rfl ?_
  refine J.move rfl rfl ?_
  refine J.eqNil (by kernel_rfl) rfl rfl rfl rfl ?_
  refine J.end ?_
  refine X.then ?_
  refine T.cond_false rfl ?_
  refine T.skip ?_
  refine X.then ?_
  refine T.seq ?_
  refine T.text [.l] rfl ?_
  refine J.assign rfl rfl ?_
  refine J.end ?_
  refine X.then ?_
  refine T.seq ?_
  refine T.addNil 5 25 ?_
  refine T.text [.l, .l, .l, .l, .l, .l, .l] rfl ?_
  refine J.move rfl rfl ?_
  refine J.build rfl rfl (W 3) (fun w => by kernel_rfl) ?_
  refine J.build rfl rfl (W 2) (fun w => by kernel_rfl) ?_
  refine J.build rfl rfl (W 1) (fun w => by kernel_rfl) ?_
  refine J.buildSlice 15 rfl (e := 25) rfl rfl (rowW [3, 2, 1]) (fun w => by kernel_rfl) (fun g15 hg15 => ?_)
  refine J.append (i := RowIx.nil) (cs := []) 5 rfl Try.underlying32 el25 rfl (RowIx.nil_ok 4) rfl rfl rfl rfl (fun w hw => (hw.blkCs (k := 15) rfl)) (rowW_one _) (by omega) (by unfold maxLen; omega) rfl ([3, 2, 1] ++ xs0.take 0).length rfl (rowW ([3, 2, 1] ++ xs0.take 0)) rfl (fun r16 hr16 => ?_)
  refine J.assign rfl rfl ?_
  refine J.end ?_
  refine X.then ?_
  refine T.seq ?_
  refine T.seq ?_
  refine T.text [.l] rfl ?_
  refine J.assign rfl rfl ?_
  refine J.end ?_
  refine X.then ?_
  refine T.block ?_
  refine T.loop (ι := Nat × RowIx) (fun ((i, r) : Nat × RowIx) => i ≤ xs0.length ∧ i ≤ 1021 ∧ r.Ok 4 ([3, 2, 1] ++ xs0.take i).length) (fun ((i, r) : Nat × RowIx) => [(0, .slice A0 xs0.length c0), (2, .pointer none), (3, .slice none 0 0), (4, .pointer (some ⟨g8, 0, none⟩)), (5, r.val ([3, 2, 1] ++ xs0.take i).length), (6, .int .i64 (i : Int))]) (fun ((i, r) : Nat × RowIx) => [(8, ⟨some g8, 89, (stkM zstk 0)⟩), (5, r.ent 25 (rowW ([3, 2, 1] ++ xs0.take i)))]) (fun ((i, r) : Nat × RowIx) => 1021 - i) ⟨0, r16⟩ ⟨Nat.zero_le _, Nat.zero_le _, hr16⟩ (by repeat (first | exact Sub.nil _ | refine Sub.cons (by first | rfl | (rw [hps.1, hps.2]; rfl)| (rw [dgs_zero]; rfl) | (rw [List.drop_length]; rfl) | (simp; done) | (congr 2; omega) | (congr 3; omega)) ?_)) (by repeat (first | exact Sub.nil _ | refine Sub.cons (by first | rfl | (rw [hps.1, hps.2]; rfl)| (rw [dgs_zero]; rfl) | (rw [List.drop_length]; rfl) | (simp; done) | (congr 2; omega) | (congr 3; omega)) ?_)) ?_
  rintro ⟨i, r⟩ ⟨hi, hi2, hr⟩
  try dsimp only at *
  have hlt : ([3, 2, 1] ++ xs0.take i).length = 3 + i := by rw [List.length_append, List.length_take, Nat.min_eq_left hi]; rfl
  refine T.seq ?_
  refine T.seq ?_
  refine T.text [.l, .l, .l, .l, .l, .l, .l, .l, .l] rfl ?_
  refine J.move rfl rfl ?_
  refine J.move rfl rfl ?_
  refine J.lenSl Try.underlying32 rfl rfl ?_
  refine J.lss rfl rfl rfl rfl ?_
  refine J.move rfl rfl ?_
  refine J.split 21 rfl (fun h1 => ?_) (fun h1 => ?_)
  · skip
    refine J.yes rfl rfl ?_
    refine J.move rfl rfl ?_
    refine J.yes rfl rfl ?_
    refine J.lenSl Try.underlying32 rfl rfl ?_
    refine J.yes rfl rfl ?_
    refine J.lss rfl rfl rfl rfl ?_
    refine J.pick_t rfl rfl rfl ?_
    refine J.end ?_
    refine X.then ?_
    refine T.cond_dec rfl (fun h2 => ?_) (fun h2 => ?_)
    · skip
      refine T.skip ?_
      refine X.then ?_
      refine T.seq ?_
      refine T.block ?_
      refine T.text [.l, .l, .l, .l, .l, .l, .l, .l] rfl ?_
      refine J.move rfl rfl ?_
      refine J.move rfl rfl ?_
      refine J.move rfl rfl ?_
      refine J.indexSlI sl32 rfl (Cs.isSomeW hc0 (by omega)) rfl (by omega) (by omega) (by first | exact Int.toNat_natCast _ | rfl) rfl ?_
      refine J.loadIW (k := .l) trivial hc0 (off_nil _) rfl agg25 (by first | rfl | with_reducible exact rowW_seg0 _ _ _ (by omega) | with_reducible exact rowW_seg00 _ _ (by omega) | with_reducible exact rowW_segs _ _ _ (by omega) | with_reducible exact rowW_seg _ _ (by omega) | with_reducible exact rowW_segb _ _ _ (by omega) | exact rowW_seg _ _ (by omega) | exact rowW_segs _ _ _ (by omega)) rfl ?_
      refine J.lit1 33 rfl Try.underlying32 el25 (by decide) rfl (wc (xs0.getD i 0)) rfl rfl rfl (fun g33 hg33 => ?_)
      have hts : ([3, 2, 1] ++ xs0.take (i + 1)) = ([3, 2, 1] ++ xs0.take i) ++ [(xs0.getD i 0)] := by rw [take_succ_getD xs0 i (by omega), List.append_assoc]
      refine J.append 5 rfl Try.underlying32 el25 rfl hr (by rw [rowW_length]) rfl rfl rfl (fun w hw => (hw.blkCs (k := 33) rfl)) (rowN_one _ _) (by omega) (by unfold maxLen; omega) rfl ([3, 2, 1] ++ xs0.take (i + 1)).length (by rw [hts, List.length_append (bs := [_])]; rfl) (rowW ([3, 2, 1] ++ xs0.take (i + 1))) (by rw [hts, rowW_append _ [_], rowW_one']) (fun r34 hr34 => ?_)
      refine J.assign rfl rfl ?_
      refine J.end ?_
      refine X.inBlock (X.then ?_)
      refine T.text [.l, .l, .l] rfl ?_
      refine J.move rfl rfl ?_
      refine J.add rfl rfl rfl (by first | exact add_nat _ 1 (by omega) | exact i64_ok _ (by omega) | exact rfl) ?_
      refine J.assign rfl rfl ?_
      refine J.end ?_
      exact X.round ⟨(i + 1), r34⟩ ⟨by omega, by omega, hr34⟩ (by first | omega | (dsimp only; omega)) (by repeat (first | exact Sub.nil _ | refine Sub.cons (by first | rfl | (rw [hps.1, hps.2]; rfl)| (rw [dgs_zero]; rfl) | (rw [List.drop_length]; rfl) | (simp; done) | (congr 2; omega) | (congr 3; omega)) ?_)) (by repeat (first | exact Sub.nil _ | refine Sub.cons (by first | rfl | (rw [hps.1, hps.2]; rfl)| (rw [dgs_zero]; rfl) | (rw [List.drop_length]; rfl) | (simp; done) | (congr 2; omega) | (congr 3; omega)) ?_))
    · skip
      refine T.exit ?_
      refine X.then_exit (X.then_exit (X.inBlock_eq (X.then ?_)))
      refine T.seq ?_
      refine T.seq ?_
      refine T.text [.l] rfl ?_
      refine J.assign rfl rfl ?_
      refine J.end ?_
      refine X.then ?_
      refine T.block ?_
      refine T.loop (ι := Nat × List Nat) (fun ((q, S) : Nat × List Nat) => q ≤ ([3, 2, 1] ++ xs0.take i).length ∧ S.length = 1024 ∧ ∀ u, u < q → S.getD u 0 = ([3, 2, 1] ++ xs0.take i).getD u 0) (fun ((q, S) : Nat × List Nat) => [(0, .slice A0 xs0.length c0), (2, .pointer none), (3, .slice none 0 0), (4, .pointer (some ⟨g8, 0, none⟩)), (5, r.val ([3, 2, 1] ++ xs0.take i).length), (6, .int .i64 (i : Int)), (7, .int .i64 (q : Int))]) (fun ((q, S) : Nat × List Nat) => [(5, r.ent 25 (rowW ([3, 2, 1] ++ xs0.take i))), (8, ⟨some g8, 89, stkM S (q : Nat)⟩)]) (fun ((q, S) : Nat × List Nat) => ([3, 2, 1] ++ xs0.take i).length - q) ⟨0, zstk⟩ ⟨Nat.zero_le _, zstk_length, fun u hu => by omega⟩ (by repeat (first | exact Sub.nil _ | refine Sub.cons (by first | rfl | (rw [hps.1, hps.2]; rfl)| (rw [dgs_zero]; rfl) | (rw [List.drop_length]; rfl) | (simp; done) | (congr 2; omega) | (congr 3; omega)) ?_)) (by repeat (first | exact Sub.nil _ | refine Sub.cons (by first | rfl | (rw [hps.1, hps.2]; rfl)| (rw [dgs_zero]; rfl) | (rw [List.drop_length]; rfl) | (simp; done) | (congr 2; omega) | (congr 3; omega)) ?_)) ?_
      rintro ⟨q, S⟩ ⟨hq, hS, hu⟩
      try dsimp only at *
      refine T.seq ?_
      refine T.seq ?_
      refine T.text [.l, .l, .l, .l] rfl ?_
      refine J.move rfl rfl ?_
      refine J.move rfl rfl ?_
      refine J.lenSl Try.underlying32 rfl rfl ?_
      refine J.lss rfl rfl rfl rfl ?_
      refine J.end ?_
      refine X.then ?_
      refine T.cond_dec rfl (fun h3 => ?_) (fun h3 => ?_)
      · skip
        refine T.skip ?_
        refine X.then ?_
        refine T.seq ?_
        refine T.block ?_
        refine T.text [.l, .l, .l, .l, .l, .l] rfl ?_
        refine J.move rfl rfl ?_
        refine J.move rfl rfl ?_
        refine J.move rfl rfl ?_
        refine J.indexRow sl32 rfl (hr.some (by omega)) rfl (by omega) (by omega) (by first | exact Int.toNat_natCast _ | rfl) rfl ?_
        refine J.loadW (k := .l) trivial 5 rfl rfl agg25 (rowW_segs _ _ _ (by omega)) rfl ?_
        refine J.callMut 8 rfl rfl fok19 rfl rfl (fun w hw => Sa.Push w _ _ _ hS (by omega) (hw.live 8 _ rfl) _) ?_
        refine J.end ?_
        refine X.inBlock (X.then ?_)
        refine T.text [.l, .l, .l] rfl ?_
        refine J.move rfl rfl ?_
        refine J.add rfl rfl rfl (by first | exact add_nat _ 1 (by omega) | exact i64_ok _ (by omega) | exact rfl) ?_
        refine J.assign rfl rfl ?_
        refine J.end ?_
        have hps : pushS S (q : Nat) (([3, 2, 1] ++ xs0.take i).getD q 0) = S.set q (([3, 2, 1] ++ xs0.take i).getD q 0) ∧ pushN (q : Nat) = ((q + 1 : Nat) : Int) := by
          unfold pushS pushN; rw [if_neg (by omega), if_neg (by omega), ix_nat q (by omega)]; exact ⟨rfl, rfl⟩
        exact X.round ⟨(q + 1), (S.set q (([3, 2, 1] ++ xs0.take i).getD q 0))⟩ ⟨by omega, by rw [List.length_set]; exact hS, fun u h => by
              rw [getD_set _ _ _ _ (by omega)]
              split
              · rename_i hiq; subst hiq; rfl
              · exact hu u (by omega)⟩ (by first | omega | (dsimp only; omega)) (by repeat (first | exact Sub.nil _ | refine Sub.cons (by first | rfl | (rw [hps.1, hps.2]; rfl)| (rw [dgs_zero]; rfl) | (rw [List.drop_length]; rfl) | (simp; done) | (congr 2; omega) | (congr 3; omega)) ?_)) (by repeat (first | exact Sub.nil _ | refine Sub.cons (by first | rfl | (rw [hps.1, hps.2]; rfl)| (rw [dgs_zero]; rfl) | (rw [List.drop_length]; rfl) | (simp; done) | (congr 2; omega) | (congr 3; omega)) ?_))
      · obtain rfl : q = ([3, 2, 1] ++ xs0.take i).length := by omega
        refine T.exit ?_
        refine X.then_exit (X.then_exit (X.inBlock_eq (X.then ?_)))
        refine T.seq ?_
        refine T.text [.l, .l, .l, .l] rfl ?_
        refine J.move rfl rfl ?_
        refine J.move rfl rfl ?_
        refine J.assign rfl rfl ?_
        refine J.assign rfl rfl ?_
        refine J.end ?_
        refine X.then ?_
        refine T.ret ?_
        exact X.ret2 rfl (RV.tmp rfl) (RV.tmp rfl) (fun w' hw' => ⟨g8, S, ([3, 2, 1] ++ xs0.take i), r, ⟨by omega, by omega, hS, hu, hr, hg8⟩, rfl, hw'.pairOf 8 5 rfl rfl (by decide) 0 1 (by decide)⟩)
  · skip
    refine J.no rfl rfl rfl rfl ?_
    refine J.no rfl rfl rfl rfl ?_
    refine J.no rfl rfl rfl rfl ?_
    refine J.pick_f rfl rfl rfl ?_
    refine J.end ?_
    refine X.then ?_
    refine T.cond_false rfl ?_
    refine T.exit ?_
    refine X.then_exit (X.then_exit (X.inBlock_eq (X.then ?_)))
    refine T.seq ?_
    refine T.seq ?_
    refine T.text [.l] rfl ?_
    refine J.assign rfl rfl ?_
    refine J.end ?_
    refine X.then ?_
    refine T.block ?_
    refine T.loop (ι := Nat × List Nat) (fun ((q, S) : Nat × List Nat) => q ≤ ([3, 2, 1] ++ xs0.take i).length ∧ S.length = 1024 ∧ ∀ u, u < q → S.getD u 0 = ([3, 2, 1] ++ xs0.take i).getD u 0) (fun ((q, S) : Nat × List Nat) => [(0, .slice A0 xs0.length c0), (2, .pointer none), (3, .slice none 0 0), (4, .pointer (some ⟨g8, 0, none⟩)), (5, r.val ([3, 2, 1] ++ xs0.take i).length), (6, .int .i64 (i : Int)), (7, .int .i64 (q : Int))]) (fun ((q, S) : Nat × List Nat) => [(5, r.ent 25 (rowW ([3, 2, 1] ++ xs0.take i))), (8, ⟨some g8, 89, stkM S (q : Nat)⟩)]) (fun ((q, S) : Nat × List Nat) => ([3, 2, 1] ++ xs0.take i).length - q) ⟨0, zstk⟩ ⟨Nat.zero_le _, zstk_length, fun u hu => by omega⟩ (by repeat (first | exact Sub.nil _ | refine Sub.cons (by first | rfl | (rw [hps.1, hps.2]; rfl)| (rw [dgs_zero]; rfl) | (rw [List.drop_length]; rfl) | (simp; done) | (congr 2; omega) | (congr 3; omega)) ?_)) (by repeat (first | exact Sub.nil _ | refine Sub.cons (by first | rfl | (rw [hps.1, hps.2]; rfl)| (rw [dgs_zero]; rfl) | (rw [List.drop_length]; rfl) | (simp; done) | (congr 2; omega) | (congr 3; omega)) ?_)) ?_
    rintro ⟨q, S⟩ ⟨hq, hS, hu⟩
    try dsimp only at *
    refine T.seq ?_
    refine T.seq ?_
    refine T.text [.l, .l, .l, .l] rfl ?_
    refine J.move rfl rfl ?_
    refine J.move rfl rfl ?_
    refine J.lenSl Try.underlying32 rfl rfl ?_
    refine J.lss rfl rfl rfl rfl ?_
    refine J.end ?_
    refine X.then ?_
    refine T.cond_dec rfl (fun h4 => ?_) (fun h4 => ?_)
    · skip
      refine T.skip ?_
      refine X.then ?_
      refine T.seq ?_
      refine T.block ?_
      refine T.text [.l, .l, .l, .l, .l, .l] rfl ?_
      refine J.move rfl rfl ?_
      refine J.move rfl rfl ?_
      refine J.move rfl rfl ?_
      refine J.indexRow sl32 rfl (hr.some (by omega)) rfl (by omega) (by omega) (by first | exact Int.toNat_natCast _ | rfl) rfl ?_
      refine J.loadW (k := .l) trivial 5 rfl rfl agg25 (rowW_segs _ _ _ (by omega)) rfl ?_
      refine J.callMut 8 rfl rfl fok19 rfl rfl (fun w hw => Sa.Push w _ _ _ hS (by omega) (hw.live 8 _ rfl) _) ?_
      refine J.end ?_
      refine X.inBlock (X.then ?_)
      refine T.text [.l, .l, .l] rfl ?_
      refine J.move rfl rfl ?_
      refine J.add rfl rfl rfl (by first | exact add_nat _ 1 (by omega) | exact i64_ok _ (by omega) | exact rfl) ?_
      refine J.assign rfl rfl ?_
      refine J.end ?_
      have hps : pushS S (q : Nat) (([3, 2, 1] ++ xs0.take i).getD q 0) = S.set q (([3, 2, 1] ++ xs0.take i).getD q 0) ∧ pushN (q : Nat) = ((q + 1 : Nat) : Int) := by
        unfold pushS pushN; rw [if_neg (by omega), if_neg (by omega), ix_nat q (by omega)]; exact ⟨rfl, rfl⟩
      exact X.round ⟨(q + 1), (S.set q (([3, 2, 1] ++ xs0.take i).getD q 0))⟩ ⟨by omega, by rw [List.length_set]; exact hS, fun u h => by
            rw [getD_set _ _ _ _ (by omega)]
            split
            · rename_i hiq; subst hiq; rfl
            · exact hu u (by omega)⟩ (by first | omega | (dsimp only; omega)) (by repeat (first | exact Sub.nil _ | refine Sub.cons (by first | rfl | (rw [hps.1, hps.2]; rfl)| (rw [dgs_zero]; rfl) | (rw [List.drop_length]; rfl) | (simp; done) | (congr 2; omega) | (congr 3; omega)) ?_)) (by repeat (first | exact Sub.nil _ | refine Sub.cons (by first | rfl | (rw [hps.1, hps.2]; rfl)| (rw [dgs_zero]; rfl) | (rw [List.drop_length]; rfl) | (simp; done) | (congr 2; omega) | (congr 3; omega)) ?_))
    · obtain rfl : q = ([3, 2, 1] ++ xs0.take i).length := by omega
      refine T.exit ?_
      refine X.then_exit (X.then_exit (X.inBlock_eq (X.then ?_)))
      refine T.seq ?_
      refine T.text [.l, .l, .l, .l] rfl ?_
      refine J.move rfl rfl ?_
      refine J.move rfl rfl ?_
      refine J.assign rfl rfl ?_
      refine J.assign rfl rfl ?_
      refine J.end ?_
      refine X.then ?_
      refine T.ret ?_
      exact X.ret2 rfl (RV.tmp rfl) (RV.tmp rfl) (fun w' hw' => ⟨g8, S, ([3, 2, 1] ++ xs0.take i), r, ⟨by omega, by omega, hS, hu, hr, hg8⟩, rfl, hw'.pairOf 8 5 rfl rfl (by decide) 0 1 (by decide)⟩)
end Go.Proofs.Ytpkjbeebhdgleaa.Fil
