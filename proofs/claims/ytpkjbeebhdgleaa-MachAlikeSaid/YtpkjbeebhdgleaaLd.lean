/-
  Walks, printed by gen.py: what each function hands back, said of numbers.
  Conditions: those that each theorem bears.
-/
import Derived.Test.YtpkjbeebhdgleaaChecked
import Derived.Test.YtpkjbeebhdgleaaFl
import Derived.Test.YtpkjbeebhdgleaaOb
import Derived.Test.YtpkjbeebhdgleaaAw
set_option linter.unusedVariables false
set_option maxRecDepth 20000
namespace Go.Proofs.Ytpkjbeebhdgleaa.Ld
open Go Go.Fw

theorem fok18 : FnOk Try.prog 18 := FnOk.mk' Try.func18 (by kernel_rfl) rfl
theorem sz52 : SizeT Try.prog 52 14 := (by unfold SizeT; kernel_rfl)
theorem sl50 : SlT Try.prog 50 52 14 := ⟨Try.underlying50, sz52⟩
theorem agg52 : AggT Try.prog 52 14 := ⟨⟨_, Try.underlying52, rfl⟩, by kernel_rfl⟩
theorem zero52 : ZeroT Try.prog 52 (.agg ([.int .i64 0, .bool false, .int .i64 0, .int .i64 0, .int .i64 0, .int .u64 0, .int .u64 0, .int .u64 0, .int .u64 0, .int .u64 0, .int .u64 0, .int .u64 0, .int .u64 0, .slice none 0 0]).toArray) := (by unfold ZeroT; kernel_rfl)
theorem sz3 : SizeT Try.prog 3 1 := (by unfold SizeT; kernel_rfl)
theorem fld52_0 : FldT Try.prog 52 0 3 0 0 := ⟨by kernel_rfl, sz3⟩
theorem one3 : OneT Try.prog 3 := ⟨⟨_, Try.underlying3, rfl⟩, by kernel_rfl⟩
theorem sz25 : SizeT Try.prog 25 4 := (by unfold SizeT; kernel_rfl)
theorem fld52_5 : FldT Try.prog 52 5 25 5 3 := ⟨by kernel_rfl, sz25⟩
theorem agg25 : AggT Try.prog 25 4 := ⟨⟨_, Try.underlying25, rfl⟩, by kernel_rfl⟩
theorem fok19 : FnOk Try.prog 19 := FnOk.mk' Try.func19 (by kernel_rfl) rfl
theorem fok31 : FnOk Try.prog 31 := FnOk.mk' Try.func31 (by kernel_rfl) rfl
theorem fok24 : FnOk Try.prog 24 := FnOk.mk' Try.func24 (by kernel_rfl) rfl
theorem zero25 : ZeroT Try.prog 25 (.agg ([.int .u64 0, .int .u64 0, .int .u64 0, .int .u64 0]).toArray) := (by unfold ZeroT; kernel_rfl)
theorem fok32 : FnOk Try.prog 32 := FnOk.mk' Try.func32 (by kernel_rfl) rfl
theorem sz23 : SizeT Try.prog 23 1 := (by unfold SizeT; kernel_rfl)
theorem arr25 : ArrT Try.prog 25 4 23 1 := ⟨Try.underlying25, sz23⟩
theorem one23 : OneT Try.prog 23 := ⟨⟨_, Try.underlying23, rfl⟩, by kernel_rfl⟩
theorem eqw25 : EqT Try.prog 25 := ⟨⟨23, arr25, one23, Try.underlying23⟩, by kernel_rfl⟩
theorem fld52_2 : FldT Try.prog 52 2 3 2 0 := ⟨by kernel_rfl, sz3⟩
theorem fok21 : FnOk Try.prog 21 := FnOk.mk' Try.func21 (by kernel_rfl) rfl
theorem fok33 : FnOk Try.prog 33 := FnOk.mk' Try.func33 (by kernel_rfl) rfl
theorem fok30 : FnOk Try.prog 30 := FnOk.mk' Try.func30 (by kernel_rfl) rfl
theorem fok34 : FnOk Try.prog 34 := FnOk.mk' Try.func34 (by kernel_rfl) rfl
theorem fok27 : FnOk Try.prog 27 := FnOk.mk' Try.func27 (by kernel_rfl) rfl
theorem fok28 : FnOk Try.prog 28 := FnOk.mk' Try.func28 (by kernel_rfl) rfl
theorem fld52_3 : FldT Try.prog 52 3 3 3 0 := ⟨by kernel_rfl, sz3⟩
theorem fok29 : FnOk Try.prog 29 := FnOk.mk' Try.func29 (by kernel_rfl) rfl
theorem fok20 : FnOk Try.prog 20 := FnOk.mk' Try.func20 (by kernel_rfl) rfl
theorem fok23 : FnOk Try.prog 23 := FnOk.mk' Try.func23 (by kernel_rfl) rfl
theorem fok22 : FnOk Try.prog 22 := FnOk.mk' Try.func22 (by kernel_rfl) rfl
theorem fok25 : FnOk Try.prog 25 := FnOk.mk' Try.func25 (by kernel_rfl) rfl

set_option maxRecDepth 100000 in
set_option maxHeartbeats 1000000 in
theorem MachAlike (w : World) (A0 : Option Addr) (c0 : Nat) (os : List OpD) (hc0 : Cs w A0 (rowO os)) (hok0 : ∀ i, i < os.length → (os.getD i OpD.zero).Ok w) (hb0 : os.length ≤ 9223372036854775807) :
    Calls Try.prog 6 [.slice A0 os.length c0].toArray w fun e w' => e = .returned (.bool true) ∧ WS w [] [] w' := by
  refine calls_of_T [] 137 [] Try.func6 rfl Try.ntmps6 (by simp) (WS.refl _ _) ?_
  refine T.seq ?_
  refine T.text [.l] rfl ?_
  refine J.assign rfl rfl ?_
  refine J.end ?_
  refine X.then ?_
  refine T.seq ?_
  refine T.text [.l, .l] rfl ?_
  refine J.callNew 11 rfl (t := 89) (cs := (stkM zstk 0)) fok18 rfl rfl (fun w hw => Sa.NewStack w) (fun g11 hg11 => ?_)
  refine J.assign rfl rfl ?_
  refine J.end ?_
  refine X.then ?_
  refine T.seq ?_
  refine T.text [.l, .l] rfl ?_
  refine J.callNew 12 rfl (t := 89) (cs := (stkM zstk 0)) fok18 rfl rfl (fun w hw => Sa.NewStack w) (fun g12 hg12 => ?_)
  refine J.assign rfl rfl ?_
  refine J.end ?_
  refine X.then ?_
  refine T.seq ?_
  refine T.seq ?_
  refine T.text [.l, .l, .l, .l, .l, .l] rfl ?_
  refine J.move rfl rfl ?_
  refine J.eqNil (by kernel_rfl) rfl rfl rfl rfl ?_
  refine J.move rfl rfl ?_
  refine J.yes rfl rfl ?_
  refine J.move rfl rfl ?_
  refine J.yes rfl rfl ?_
  refine J.eqNil (by kernel_rfl) rfl rfl rfl rfl ?_
  refine J.pick_f rfl rfl rfl ?_
  refine J.end ?_
  refine X.then ?_
  refine T.cond_false rfl ?_
  refine T.skip ?_
  refine X.then ?_
  refine T.seq ?_
  refine T.seq ?_
  refine T.text [.l] rfl ?_
  refine J.assign rfl rfl ?_
  refine J.end ?_
  refine X.then ?_
  refine T.block ?_
  refine T.loop (ι := Nat × List Nat × Int) (fun ((i, S, n) : Nat × List Nat × Int) => i ≤ os.length ∧ S.length = 1024 ∧ 0 ≤ n ∧ n ≤ 1024) (fun ((i, S, n) : Nat × List Nat × Int) => [(0, .slice A0 os.length c0), (3, .pointer (some ⟨g11, 0, none⟩)), (4, .pointer (some ⟨g12, 0, none⟩)), (5, .int .i64 (i : Int))]) (fun ((i, S, n) : Nat × List Nat × Int) => [(11, ⟨some g11, 89, stkM (S) (n)⟩), (12, ⟨some g12, 89, stkM (S) (n)⟩)]) (fun ((i, S, n) : Nat × List Nat × Int) => os.length - i) ⟨0, zstk, 0⟩ ⟨Nat.zero_le _, zstk_length, by decide, by decide⟩ (by repeat (first | exact Sub.nil _ | refine Sub.cons (by first | rfl | (rw [dgs_zero]; rfl) | (rw [List.drop_length]; rfl) | (simp; done) | (congr 2; omega) | (congr 3; omega)) ?_)) (by repeat (first | exact Sub.nil _ | refine Sub.cons (by first | rfl | (rw [dgs_zero]; rfl) | (rw [List.drop_length]; rfl) | (simp; done) | (congr 2; omega) | (congr 3; omega)) ?_)) ?_
  rintro ⟨i, S, n⟩ ⟨hi, hS, hn⟩
  try dsimp only at *
  refine T.seq ?_
  refine T.seq ?_
  refine T.text [.l, .l, .l, .l] rfl ?_
  refine J.move rfl rfl ?_
  refine J.move rfl rfl ?_
  refine J.lenSl Try.underlying50 rfl rfl ?_
  refine J.lss rfl rfl rfl rfl ?_
  refine J.end ?_
  refine X.then ?_
  refine T.cond_dec rfl (fun h1 => ?_) (fun h1 => ?_)
  · skip
    refine T.skip ?_
    refine X.then ?_
    refine T.seq ?_
    refine T.block ?_
    refine T.seq ?_
    refine T.text [.l, .l, .l, .l, .l, .l] rfl ?_
    refine J.move rfl rfl ?_
    refine J.move rfl rfl ?_
    refine J.indexSlI sl50 rfl (hc0.isSome (by rw [rowO_length]; omega)) rfl (by omega) (by omega) (by first | exact Int.toNat_natCast _ | rfl) rfl ?_
    refine J.loadIN (k := .l) trivial hc0 (off_nil _) rfl agg52 (os.getD i OpD.zero).cs rfl (rowO_seg _ _ (by omega)) rfl ?_
    have hok := hok0 i (by omega)
    obtain ⟨o, ho⟩ : ∃ o, os.getD i OpD.zero = o := ⟨_, rfl⟩
    rw [ho] at hok ⊢
    have hok1 := hok.n
    have hok2 := hok.m
    unfold i64r at hok1 hok2
    have hE := atE_iff n o.n
    have hW := swapE_iff n o.n
    have hX := exE_iff n o.n o.m
    have hD := dupE_iff n o.n
    have hP := pushE_iff n
    have hQ := popE_iff n
    refine J.alloc 6 rfl zero52 [.int .i64 0, .bool false, .int .i64 0, .int .i64 0, .int .i64 0, .int .u64 0, .int .u64 0, .int .u64 0, .int .u64 0, .int .u64 0, .int .u64 0, .int .u64 0, .int .u64 0, .slice none 0 0] rfl rfl (fun g6 hg6 => ?_)
    refine J.store 6 rfl rfl rfl rfl o.cs rfl sz52 (Nat.le_refl 14) (by intro u hu; simp [rowN] at hu; rcases hu with rfl | rfl | rfl | rfl | rfl | hu; rfl; rfl; rfl; rfl; rfl; rcases hu with ⟨a, _, rfl⟩ | ⟨a, _, rfl⟩ | rfl; rfl; rfl; rfl) (by show 0 < 14; omega) trivial o.cs rfl ?_
    refine J.end ?_
    refine X.then ?_
    refine T.meet (ι := List Nat × Int) (fun ((S2, n2) : List Nat × Int) => S2.length = 1024 ∧ 0 ≤ n2 ∧ n2 ≤ 1024) (fun ((S2, n2) : List Nat × Int) => [(0, .slice A0 os.length c0), (3, .pointer (some ⟨g11, 0, none⟩)), (4, .pointer (some ⟨g12, 0, none⟩)), (5, .int .i64 (i : Int))]) (fun ((S2, n2) : List Nat × Int) => [(11, ⟨some g11, 89, stkM (S2) (n2)⟩), (12, ⟨some g12, 89, stkM (S2) (n2)⟩)]) ?_ ?_
    · -- up to where the ways meet
      refine T.seq ?_
      refine T.text [.l, .l] rfl ?_
      refine J.fieldAddr fld52_0 rfl rfl ?_
      refine J.load1 (k := .l) trivial 6 rfl rfl one3 (by first | rfl | with_reducible exact rowN_get0 _ _ _ (by omega) | with_reducible exact rowN_get1 _ _ _ (by omega) | with_reducible exact rowN_get1s _ _ _ _ (by omega) | exact rowN_get1 _ _ _ (by omega) | exact rowN_get1s _ _ _ _ (by omega) | exact rowN_get0 _ _ _ (by omega)) rfl ?_
      refine J.end ?_
      refine X.then ?_
      refine T.block ?_
      refine T.seq ?_
      refine T.seq ?_
      refine T.text [.l, .l] rfl ?_
      refine J.eql rfl rfl rfl rfl ?_
      refine J.assign rfl rfl ?_
      refine J.end ?_
      refine X.then ?_
      refine T.cond_dec rfl (fun h2 => ?_) (fun h2 => ?_)
      · skip
        refine T.as 31 (.bool true) rfl (by rw [decide_eq_true h2]) ?_
        refine T.skip ?_
        refine X.then ?_
        refine T.cond_true rfl ?_
        refine T.seq ?_
        refine T.text [.l, .l, .l, .l, .l] rfl ?_
        refine J.move rfl rfl ?_
        refine J.fieldAddr fld52_5 rfl rfl ?_
        refine J.loadN (k := .l) trivial 6 rfl rfl agg25 (wc o.x) rfl rfl rfl ?_
        refine J.callMut 11 rfl rfl fok19 rfl rfl (fun w hw => Sa.Push w g11 S n hS (by omega) (hw.live 11 _ rfl) _) ?_
        refine J.eql rfl rfl rfl rfl ?_
        refine J.end ?_
        refine X.then ?_
        refine T.cond_dec rfl (fun h3 => ?_) (fun h3 => ?_)
        · have hy := h3
          refine T.text [.l, .l, .l, .l] rfl ?_
          refine J.move rfl rfl ?_
          refine J.fieldAddr fld52_5 rfl rfl ?_
          refine J.loadN (k := .l) trivial 6 rfl rfl agg25 (wc o.x) rfl rfl rfl ?_
          refine J.callMut 12 rfl rfl fok31 rfl rfl (fun w hw => Sa.Put w g12 S n hS (by omega) (hw.live 12 _ rfl) _) ?_
          refine J.end ?_
          refine X.inBlock ?_
          refine X.asE 11 ⟨some g11, 89, stkM (S.set (ix n) o.x) (n + 1)⟩ rfl (by rw [(push_yes (S := S) (x := o.x) hy).1, (push_yes (S := S) (x := o.x) hy).2]) ?_
          exact X.at ⟨(S.set (ix n) o.x), (n + 1)⟩ ⟨by first | exact hS | (rw [List.length_set]; exact hS) | (rw [swp_length]; exact hS), by omega⟩ (by repeat (first | exact Sub.nil _ | refine Sub.cons (by first | rfl | (rw [dgs_zero]; rfl) | (rw [List.drop_length]; rfl) | (simp; done) | (congr 2; omega) | (congr 3; omega)) ?_)) (by repeat (first | exact Sub.nil _ | refine Sub.cons (by first | rfl | (rw [dgs_zero]; rfl) | (rw [List.drop_length]; rfl) | (simp; done) | (congr 2; omega) | (congr 3; omega)) ?_))
        · have hno := h3
          refine T.skip ?_
          refine X.inBlock ?_
          refine X.asE 11 ⟨some g11, 89, stkM (S) (n)⟩ rfl (by rw [(push_no (S := S) (x := o.x) hno).1, (push_no (S := S) (x := o.x) hno).2]) ?_
          exact X.at ⟨(S), (n)⟩ ⟨hS, by omega⟩ (by repeat (first | exact Sub.nil _ | refine Sub.cons (by first | rfl | (rw [dgs_zero]; rfl) | (rw [List.drop_length]; rfl) | (simp; done) | (congr 2; omega) | (congr 3; omega)) ?_)) (by repeat (first | exact Sub.nil _ | refine Sub.cons (by first | rfl | (rw [dgs_zero]; rfl) | (rw [List.drop_length]; rfl) | (simp; done) | (congr 2; omega) | (congr 3; omega)) ?_))
      · skip
        refine T.as 31 (.bool false) rfl (by rw [decide_eq_false h2]) ?_
        refine T.text [.l, .l] rfl ?_
        refine J.eql rfl rfl rfl rfl ?_
        refine J.assign rfl rfl ?_
        refine J.end ?_
        refine X.then ?_
        refine T.cond_dec rfl (fun h4 => ?_) (fun h4 => ?_)
        · skip
          refine T.as 31 (.bool true) rfl (by rw [decide_eq_true h4]) ?_
          refine T.seq ?_
          refine T.text [.l, .l, .l, .l, .l] rfl ?_
          refine J.move rfl rfl ?_
          refine J.fieldAddr fld52_5 rfl rfl ?_
          refine J.loadN (k := .l) trivial 6 rfl rfl agg25 (wc o.x) rfl rfl rfl ?_
          refine J.callMut 11 rfl rfl fok19 rfl rfl (fun w hw => Sa.Push w g11 S n hS (by omega) (hw.live 11 _ rfl) _) ?_
          refine J.eql rfl rfl rfl rfl ?_
          refine J.end ?_
          refine X.then ?_
          refine T.cond_dec rfl (fun h5 => ?_) (fun h5 => ?_)
          · have hy := h5
            refine T.text [.l, .l, .l, .l] rfl ?_
            refine J.move rfl rfl ?_
            refine J.fieldAddr fld52_5 rfl rfl ?_
            refine J.loadN (k := .l) trivial 6 rfl rfl agg25 (wc o.x) rfl rfl rfl ?_
            refine J.callMut 12 rfl rfl fok31 rfl rfl (fun w hw => Sa.Put w g12 S n hS (by omega) (hw.live 12 _ rfl) _) ?_
            refine J.end ?_
            refine X.inBlock ?_
            refine X.asE 11 ⟨some g11, 89, stkM (S.set (ix n) o.x) (n + 1)⟩ rfl (by rw [(push_yes (S := S) (x := o.x) hy).1, (push_yes (S := S) (x := o.x) hy).2]) ?_
            exact X.at ⟨(S.set (ix n) o.x), (n + 1)⟩ ⟨by first | exact hS | (rw [List.length_set]; exact hS) | (rw [swp_length]; exact hS), by omega⟩ (by repeat (first | exact Sub.nil _ | refine Sub.cons (by first | rfl | (rw [dgs_zero]; rfl) | (rw [List.drop_length]; rfl) | (simp; done) | (congr 2; omega) | (congr 3; omega)) ?_)) (by repeat (first | exact Sub.nil _ | refine Sub.cons (by first | rfl | (rw [dgs_zero]; rfl) | (rw [List.drop_length]; rfl) | (simp; done) | (congr 2; omega) | (congr 3; omega)) ?_))
          · have hno := h5
            refine T.skip ?_
            refine X.inBlock ?_
            refine X.asE 11 ⟨some g11, 89, stkM (S) (n)⟩ rfl (by rw [(push_no (S := S) (x := o.x) hno).1, (push_no (S := S) (x := o.x) hno).2]) ?_
            exact X.at ⟨(S), (n)⟩ ⟨hS, by omega⟩ (by repeat (first | exact Sub.nil _ | refine Sub.cons (by first | rfl | (rw [dgs_zero]; rfl) | (rw [List.drop_length]; rfl) | (simp; done) | (congr 2; omega) | (congr 3; omega)) ?_)) (by repeat (first | exact Sub.nil _ | refine Sub.cons (by first | rfl | (rw [dgs_zero]; rfl) | (rw [List.drop_length]; rfl) | (simp; done) | (congr 2; omega) | (congr 3; omega)) ?_))
        · skip
          refine T.as 31 (.bool false) rfl (by rw [decide_eq_false h4]) ?_
          refine T.seq ?_
          refine T.seq ?_
          refine T.text [.l, .l] rfl ?_
          refine J.eql rfl rfl rfl rfl ?_
          refine J.assign rfl rfl ?_
          refine J.end ?_
          refine X.then ?_
          refine T.cond_dec rfl (fun h6 => ?_) (fun h6 => ?_)
          · skip
            refine T.as 43 (.bool true) rfl (by rw [decide_eq_true h6]) ?_
            refine T.skip ?_
            refine X.then ?_
            refine T.cond_true rfl ?_
            refine T.seq ?_
            refine T.text [.l, .l, .l, .l, .l, .l, .l, .l] rfl ?_
            refine J.move rfl rfl ?_
            refine J.callMut 11 rfl rfl fok24 rfl rfl (fun w hw => Sa.Pop w g11 S n hS (by omega) (hw.live 11 _ rfl)) ?_
            refine J.move rfl rfl ?_
            refine J.extract rfl rfl rfl ?_
            refine J.extract rfl rfl rfl ?_
            refine J.alloc 7 rfl zero25 [.int .u64 0, .int .u64 0, .int .u64 0, .int .u64 0] rfl rfl (fun g7 hg7 => ?_)
            refine J.store 7 rfl rfl rfl rfl (wc (popX S n)) rfl sz25 (by first | decide | exact Nat.le_refl _ | exact Nat.le_of_ble_eq_true rfl | (simp [rowN]; done) | (simp [rowN]; omega)) (by first | exact rowN_one _ _ | (simp; done) | (intro u hu; simp at hu; subst hu; rfl) | (intro u hu; simp at hu; rcases hu with rfl | rfl <;> rfl)) (by first | decide | exact Nat.zero_lt_succ _ | simp) trivial (wc (popX S n)) rfl ?_
            refine J.assign rfl rfl ?_
            refine J.end ?_
            refine X.then ?_
            refine T.seq ?_
            refine T.draw [(7, ⟨some g7, 25, (wc (popX S n))⟩)] [(0, .g), (1, .g), (2, .g), (3, .g), (5, .s), (4, .l), (6, .g), (7, .g)] (by kernel_rfl) (by kernel_rfl) ?_ rfl (by repeat (first | exact Sub.nil _ | refine Sub.cons (by first | rfl | (rw [dgs_zero]; rfl) | (rw [List.drop_length]; rfl) | (simp; done) | (congr 2; omega) | (congr 3; omega)) ?_))
            refine J.move rfl rfl ?_
            refine J.eql rfl rfl rfl rfl ?_
            refine J.move rfl rfl ?_
            refine J.split 53 rfl (fun h7 => ?_) (fun h7 => ?_)
            · have hy := h7
              refine J.yes rfl rfl ?_
              refine J.move rfl rfl ?_
              refine J.yes rfl rfl ?_
              refine J.loadNs 7 rfl rfl agg25 (wc (popX S n)) rfl rfl rfl ?_
              refine J.yes rfl rfl ?_
              refine J.callMut 12 rfl rfl fok32 rfl rfl (fun w hw => Sa.Take w g12 S n hS (by omega) (hw.live 12 _ rfl)) ?_
              refine J.yes rfl rfl ?_
              refine J.neqW eqw25 rfl rfl rfl ?_
              refine J.as 57 (.bool false) rfl (by rw [decide_eq_false (fun h => h (by rw [(pop_yes (S := S) hy).1]))]) ?_
              refine J.pick_t rfl rfl rfl ?_
              refine J.end ?_
              refine X.then ?_
              refine T.cond_false rfl ?_
              refine T.skip ?_
              refine X.inBlock ?_
              refine X.asE 11 ⟨some g11, 89, stkM (S) (n - 1)⟩ rfl (by rw [(pop_yes (S := S) hy).2]) ?_
              exact X.at ⟨(S), (n - 1)⟩ ⟨by first | exact hS | (rw [List.length_set]; exact hS) | (rw [swp_length]; exact hS), by omega⟩ (by repeat (first | exact Sub.nil _ | refine Sub.cons (by first | rfl | (rw [dgs_zero]; rfl) | (rw [List.drop_length]; rfl) | (simp; done) | (congr 2; omega) | (congr 3; omega)) ?_)) (by repeat (first | exact Sub.nil _ | refine Sub.cons (by first | rfl | (rw [dgs_zero]; rfl) | (rw [List.drop_length]; rfl) | (simp; done) | (congr 2; omega) | (congr 3; omega)) ?_))
            · have hno := h7
              refine J.no rfl rfl rfl rfl ?_
              refine J.no rfl rfl rfl rfl ?_
              refine J.no rfl rfl rfl rfl ?_
              refine J.no rfl rfl rfl rfl ?_
              refine J.pick_f rfl rfl rfl ?_
              refine J.end ?_
              refine X.then ?_
              refine T.cond_false rfl ?_
              refine T.skip ?_
              refine X.inBlock ?_
              refine X.asE 11 ⟨some g11, 89, stkM (S) (n)⟩ rfl (by rw [pop_no (S := S) hno]) ?_
              exact X.at ⟨(S), (n)⟩ ⟨hS, by omega⟩ (by repeat (first | exact Sub.nil _ | refine Sub.cons (by first | rfl | (rw [dgs_zero]; rfl) | (rw [List.drop_length]; rfl) | (simp; done) | (congr 2; omega) | (congr 3; omega)) ?_)) (by repeat (first | exact Sub.nil _ | refine Sub.cons (by first | rfl | (rw [dgs_zero]; rfl) | (rw [List.drop_length]; rfl) | (simp; done) | (congr 2; omega) | (congr 3; omega)) ?_))
          · skip
            refine T.as 43 (.bool false) rfl (by rw [decide_eq_false h6]) ?_
            refine T.text [.l, .l] rfl ?_
            refine J.eql rfl rfl rfl rfl ?_
            refine J.assign rfl rfl ?_
            refine J.end ?_
            refine X.then ?_
            refine T.cond_dec rfl (fun h8 => ?_) (fun h8 => ?_)
            · skip
              refine T.as 43 (.bool true) rfl (by rw [decide_eq_true h8]) ?_
              refine T.seq ?_
              refine T.text [.l, .l, .l, .l, .l, .l, .l, .l] rfl ?_
              refine J.move rfl rfl ?_
              refine J.callMut 11 rfl rfl fok24 rfl rfl (fun w hw => Sa.Pop w g11 S n hS (by omega) (hw.live 11 _ rfl)) ?_
              refine J.move rfl rfl ?_
              refine J.extract rfl rfl rfl ?_
              refine J.extract rfl rfl rfl ?_
              refine J.alloc 7 rfl zero25 [.int .u64 0, .int .u64 0, .int .u64 0, .int .u64 0] rfl rfl (fun g7 hg7 => ?_)
              refine J.store 7 rfl rfl rfl rfl (wc (popX S n)) rfl sz25 (by first | decide | exact Nat.le_refl _ | exact Nat.le_of_ble_eq_true rfl | (simp [rowN]; done) | (simp [rowN]; omega)) (by first | exact rowN_one _ _ | (simp; done) | (intro u hu; simp at hu; subst hu; rfl) | (intro u hu; simp at hu; rcases hu with rfl | rfl <;> rfl)) (by first | decide | exact Nat.zero_lt_succ _ | simp) trivial (wc (popX S n)) rfl ?_
              refine J.assign rfl rfl ?_
              refine J.end ?_
              refine X.then ?_
              refine T.seq ?_
              refine T.draw [(7, ⟨some g7, 25, (wc (popX S n))⟩)] [(0, .g), (1, .g), (2, .g), (3, .g), (5, .s), (4, .l), (6, .g), (7, .g)] (by kernel_rfl) (by kernel_rfl) ?_ rfl (by repeat (first | exact Sub.nil _ | refine Sub.cons (by first | rfl | (rw [dgs_zero]; rfl) | (rw [List.drop_length]; rfl) | (simp; done) | (congr 2; omega) | (congr 3; omega)) ?_))
              refine J.move rfl rfl ?_
              refine J.eql rfl rfl rfl rfl ?_
              refine J.move rfl rfl ?_
              refine J.split 53 rfl (fun h9 => ?_) (fun h9 => ?_)
              · have hy := h9
                refine J.yes rfl rfl ?_
                refine J.move rfl rfl ?_
                refine J.yes rfl rfl ?_
                refine J.loadNs 7 rfl rfl agg25 (wc (popX S n)) rfl rfl rfl ?_
                refine J.yes rfl rfl ?_
                refine J.callMut 12 rfl rfl fok32 rfl rfl (fun w hw => Sa.Take w g12 S n hS (by omega) (hw.live 12 _ rfl)) ?_
                refine J.yes rfl rfl ?_
                refine J.neqW eqw25 rfl rfl rfl ?_
                refine J.as 57 (.bool false) rfl (by rw [decide_eq_false (fun h => h (by rw [(pop_yes (S := S) hy).1]))]) ?_
                refine J.pick_t rfl rfl rfl ?_
                refine J.end ?_
                refine X.then ?_
                refine T.cond_false rfl ?_
                refine T.skip ?_
                refine X.inBlock ?_
                refine X.asE 11 ⟨some g11, 89, stkM (S) (n - 1)⟩ rfl (by rw [(pop_yes (S := S) hy).2]) ?_
                exact X.at ⟨(S), (n - 1)⟩ ⟨by first | exact hS | (rw [List.length_set]; exact hS) | (rw [swp_length]; exact hS), by omega⟩ (by repeat (first | exact Sub.nil _ | refine Sub.cons (by first | rfl | (rw [dgs_zero]; rfl) | (rw [List.drop_length]; rfl) | (simp; done) | (congr 2; omega) | (congr 3; omega)) ?_)) (by repeat (first | exact Sub.nil _ | refine Sub.cons (by first | rfl | (rw [dgs_zero]; rfl) | (rw [List.drop_length]; rfl) | (simp; done) | (congr 2; omega) | (congr 3; omega)) ?_))
              · have hno := h9
                refine J.no rfl rfl rfl rfl ?_
                refine J.no rfl rfl rfl rfl ?_
                refine J.no rfl rfl rfl rfl ?_
                refine J.no rfl rfl rfl rfl ?_
                refine J.pick_f rfl rfl rfl ?_
                refine J.end ?_
                refine X.then ?_
                refine T.cond_false rfl ?_
                refine T.skip ?_
                refine X.inBlock ?_
                refine X.asE 11 ⟨some g11, 89, stkM (S) (n)⟩ rfl (by rw [pop_no (S := S) hno]) ?_
                exact X.at ⟨(S), (n)⟩ ⟨hS, by omega⟩ (by repeat (first | exact Sub.nil _ | refine Sub.cons (by first | rfl | (rw [dgs_zero]; rfl) | (rw [List.drop_length]; rfl) | (simp; done) | (congr 2; omega) | (congr 3; omega)) ?_)) (by repeat (first | exact Sub.nil _ | refine Sub.cons (by first | rfl | (rw [dgs_zero]; rfl) | (rw [List.drop_length]; rfl) | (simp; done) | (congr 2; omega) | (congr 3; omega)) ?_))
            · skip
              refine T.as 43 (.bool false) rfl (by rw [decide_eq_false h8]) ?_
              refine T.seq ?_
              refine T.seq ?_
              refine T.text [.l, .l] rfl ?_
              refine J.eql rfl rfl rfl rfl ?_
              refine J.assign rfl rfl ?_
              refine J.end ?_
              refine X.then ?_
              refine T.cond_dec rfl (fun h10 => ?_) (fun h10 => ?_)
              · skip
                refine T.as 59 (.bool true) rfl (by rw [decide_eq_true h10]) ?_
                refine T.skip ?_
                refine X.then ?_
                refine T.cond_true rfl ?_
                refine T.seq ?_
                refine T.text [.l, .l, .l, .l, .l, .l, .l, .l, .l, .l] rfl ?_
                refine J.move rfl rfl ?_
                refine J.fieldAddr fld52_2 rfl rfl ?_
                refine J.load1 (k := .l) trivial 6 rfl rfl one3 (by first | rfl | with_reducible exact rowN_get0 _ _ _ (by omega) | with_reducible exact rowN_get1 _ _ _ (by omega) | with_reducible exact rowN_get1s _ _ _ _ (by omega) | exact rowN_get1 _ _ _ (by omega) | exact rowN_get1s _ _ _ _ (by omega) | exact rowN_get0 _ _ _ (by omega)) rfl ?_
                refine J.call0 (k := .l) trivial fok21 rfl rfl (fun w hw => Sa.At w g11 S n hS (by omega) (hw.blkCs (k := 11) rfl) o.n hok1) ?_
                refine J.move rfl rfl ?_
                refine J.extract rfl rfl rfl ?_
                refine J.extract rfl rfl rfl ?_
                refine J.alloc 9 rfl zero25 [.int .u64 0, .int .u64 0, .int .u64 0, .int .u64 0] rfl rfl (fun g9 hg9 => ?_)
                refine J.store 9 rfl rfl rfl rfl (wc (atX S n o.n)) rfl sz25 (by first | decide | exact Nat.le_refl _ | exact Nat.le_of_ble_eq_true rfl | (simp [rowN]; done) | (simp [rowN]; omega)) (by first | exact rowN_one _ _ | (simp; done) | (intro u hu; simp at hu; subst hu; rfl) | (intro u hu; simp at hu; rcases hu with rfl | rfl <;> rfl)) (by first | decide | exact Nat.zero_lt_succ _ | simp) trivial (wc (atX S n o.n)) rfl ?_
                refine J.assign rfl rfl ?_
                refine J.end ?_
                refine X.then ?_
                refine T.seq ?_
                refine T.draw [] [(0, .g), (1, .g), (2, .g), (3, .g), (4, .g), (5, .q), (6, .q), (7, .q), (8, .g), (9, .g)] (by kernel_rfl) (by kernel_rfl) ?_ rfl (by repeat (first | exact Sub.nil _ | refine Sub.cons (by first | rfl | (rw [dgs_zero]; rfl) | (rw [List.drop_length]; rfl) | (simp; done) | (congr 2; omega) | (congr 3; omega)) ?_))
                refine J.move rfl rfl ?_
                refine J.eql rfl rfl rfl rfl ?_
                refine J.move rfl rfl ?_
                refine J.split 71 rfl (fun h11 => ?_) (fun h11 => ?_)
                · have hy := h11
                  refine J.yes rfl rfl ?_
                  refine J.move rfl rfl ?_
                  refine J.yes rfl rfl ?_
                  refine J.fieldAddr fld52_2 rfl rfl ?_
                  refine J.yes rfl rfl ?_
                  refine J.load1 (k := .q) trivial 6 rfl rfl one3 (by first | rfl | with_reducible exact rowN_get0 _ _ _ (by omega) | with_reducible exact rowN_get1 _ _ _ (by omega) | with_reducible exact rowN_get1s _ _ _ _ (by omega) | exact rowN_get1 _ _ _ (by omega) | exact rowN_get1s _ _ _ _ (by omega) | exact rowN_get0 _ _ _ (by omega)) rfl ?_
                  refine J.yes rfl rfl ?_
                  refine J.call0 (k := .q) trivial fok33 rfl rfl (fun w hw => Sa.Peek w g12 S n hS (by omega) (hw.blkCs (k := 12) rfl) _) ?_
                  refine J.yes rfl rfl ?_
                  refine J.loadN (k := .q) trivial 9 rfl rfl agg25 (wc (atX S n o.n)) rfl rfl rfl ?_
                  refine J.yes rfl rfl ?_
                  refine J.neqW eqw25 rfl rfl rfl ?_
                  refine J.as 77 (.bool false) rfl (by rw [decide_eq_false (fun h => h (by rw [atX_yes hy]))]) ?_
                  refine J.pick_t rfl rfl rfl ?_
                  refine J.end ?_
                  refine X.then ?_
                  refine T.cond_false rfl ?_
                  refine T.skip ?_
                  refine X.inBlock ?_
                  exact X.at ⟨(S), (n)⟩ ⟨hS, by omega⟩ (by repeat (first | exact Sub.nil _ | refine Sub.cons (by first | rfl | (rw [dgs_zero]; rfl) | (rw [List.drop_length]; rfl) | (simp; done) | (congr 2; omega) | (congr 3; omega)) ?_)) (by repeat (first | exact Sub.nil _ | refine Sub.cons (by first | rfl | (rw [dgs_zero]; rfl) | (rw [List.drop_length]; rfl) | (simp; done) | (congr 2; omega) | (congr 3; omega)) ?_))
                · have hno := h11
                  refine J.no rfl rfl rfl rfl ?_
                  refine J.no rfl rfl rfl rfl ?_
                  refine J.no rfl rfl rfl rfl ?_
                  refine J.no rfl rfl rfl rfl ?_
                  refine J.no rfl rfl rfl rfl ?_
                  refine J.no rfl rfl rfl rfl ?_
                  refine J.pick_f rfl rfl rfl ?_
                  refine J.end ?_
                  refine X.then ?_
                  refine T.cond_false rfl ?_
                  refine T.skip ?_
                  refine X.inBlock ?_
                  exact X.at ⟨(S), (n)⟩ ⟨hS, by omega⟩ (by repeat (first | exact Sub.nil _ | refine Sub.cons (by first | rfl | (rw [dgs_zero]; rfl) | (rw [List.drop_length]; rfl) | (simp; done) | (congr 2; omega) | (congr 3; omega)) ?_)) (by repeat (first | exact Sub.nil _ | refine Sub.cons (by first | rfl | (rw [dgs_zero]; rfl) | (rw [List.drop_length]; rfl) | (simp; done) | (congr 2; omega) | (congr 3; omega)) ?_))
              · skip
                refine T.as 59 (.bool false) rfl (by rw [decide_eq_false h10]) ?_
                refine T.text [.l, .l] rfl ?_
                refine J.eql rfl rfl rfl rfl ?_
                refine J.assign rfl rfl ?_
                refine J.end ?_
                refine X.then ?_
                refine T.cond_dec rfl (fun h12 => ?_) (fun h12 => ?_)
                · skip
                  refine T.as 59 (.bool true) rfl (by rw [decide_eq_true h12]) ?_
                  refine T.seq ?_
                  refine T.text [.l, .l, .l, .l, .l, .l, .l, .l, .l, .l] rfl ?_
                  refine J.move rfl rfl ?_
                  refine J.fieldAddr fld52_2 rfl rfl ?_
                  refine J.load1 (k := .l) trivial 6 rfl rfl one3 (by first | rfl | with_reducible exact rowN_get0 _ _ _ (by omega) | with_reducible exact rowN_get1 _ _ _ (by omega) | with_reducible exact rowN_get1s _ _ _ _ (by omega) | exact rowN_get1 _ _ _ (by omega) | exact rowN_get1s _ _ _ _ (by omega) | exact rowN_get0 _ _ _ (by omega)) rfl ?_
                  refine J.call0 (k := .l) trivial fok21 rfl rfl (fun w hw => Sa.At w g11 S n hS (by omega) (hw.blkCs (k := 11) rfl) o.n hok1) ?_
                  refine J.move rfl rfl ?_
                  refine J.extract rfl rfl rfl ?_
                  refine J.extract rfl rfl rfl ?_
                  refine J.alloc 9 rfl zero25 [.int .u64 0, .int .u64 0, .int .u64 0, .int .u64 0] rfl rfl (fun g9 hg9 => ?_)
                  refine J.store 9 rfl rfl rfl rfl (wc (atX S n o.n)) rfl sz25 (by first | decide | exact Nat.le_refl _ | exact Nat.le_of_ble_eq_true rfl | (simp [rowN]; done) | (simp [rowN]; omega)) (by first | exact rowN_one _ _ | (simp; done) | (intro u hu; simp at hu; subst hu; rfl) | (intro u hu; simp at hu; rcases hu with rfl | rfl <;> rfl)) (by first | decide | exact Nat.zero_lt_succ _ | simp) trivial (wc (atX S n o.n)) rfl ?_
                  refine J.assign rfl rfl ?_
                  refine J.end ?_
                  refine X.then ?_
                  refine T.seq ?_
                  refine T.draw [] [(0, .g), (1, .g), (2, .g), (3, .g), (4, .g), (5, .q), (6, .q), (7, .q), (8, .g), (9, .g)] (by kernel_rfl) (by kernel_rfl) ?_ rfl (by repeat (first | exact Sub.nil _ | refine Sub.cons (by first | rfl | (rw [dgs_zero]; rfl) | (rw [List.drop_length]; rfl) | (simp; done) | (congr 2; omega) | (congr 3; omega)) ?_))
                  refine J.move rfl rfl ?_
                  refine J.eql rfl rfl rfl rfl ?_
                  refine J.move rfl rfl ?_
                  refine J.split 71 rfl (fun h13 => ?_) (fun h13 => ?_)
                  · have hy := h13
                    refine J.yes rfl rfl ?_
                    refine J.move rfl rfl ?_
                    refine J.yes rfl rfl ?_
                    refine J.fieldAddr fld52_2 rfl rfl ?_
                    refine J.yes rfl rfl ?_
                    refine J.load1 (k := .q) trivial 6 rfl rfl one3 (by first | rfl | with_reducible exact rowN_get0 _ _ _ (by omega) | with_reducible exact rowN_get1 _ _ _ (by omega) | with_reducible exact rowN_get1s _ _ _ _ (by omega) | exact rowN_get1 _ _ _ (by omega) | exact rowN_get1s _ _ _ _ (by omega) | exact rowN_get0 _ _ _ (by omega)) rfl ?_
                    refine J.yes rfl rfl ?_
                    refine J.call0 (k := .q) trivial fok33 rfl rfl (fun w hw => Sa.Peek w g12 S n hS (by omega) (hw.blkCs (k := 12) rfl) _) ?_
                    refine J.yes rfl rfl ?_
                    refine J.loadN (k := .q) trivial 9 rfl rfl agg25 (wc (atX S n o.n)) rfl rfl rfl ?_
                    refine J.yes rfl rfl ?_
                    refine J.neqW eqw25 rfl rfl rfl ?_
                    refine J.as 77 (.bool false) rfl (by rw [decide_eq_false (fun h => h (by rw [atX_yes hy]))]) ?_
                    refine J.pick_t rfl rfl rfl ?_
                    refine J.end ?_
                    refine X.then ?_
                    refine T.cond_false rfl ?_
                    refine T.skip ?_
                    refine X.inBlock ?_
                    exact X.at ⟨(S), (n)⟩ ⟨hS, by omega⟩ (by repeat (first | exact Sub.nil _ | refine Sub.cons (by first | rfl | (rw [dgs_zero]; rfl) | (rw [List.drop_length]; rfl) | (simp; done) | (congr 2; omega) | (congr 3; omega)) ?_)) (by repeat (first | exact Sub.nil _ | refine Sub.cons (by first | rfl | (rw [dgs_zero]; rfl) | (rw [List.drop_length]; rfl) | (simp; done) | (congr 2; omega) | (congr 3; omega)) ?_))
                  · have hno := h13
                    refine J.no rfl rfl rfl rfl ?_
                    refine J.no rfl rfl rfl rfl ?_
                    refine J.no rfl rfl rfl rfl ?_
                    refine J.no rfl rfl rfl rfl ?_
                    refine J.no rfl rfl rfl rfl ?_
                    refine J.no rfl rfl rfl rfl ?_
                    refine J.pick_f rfl rfl rfl ?_
                    refine J.end ?_
                    refine X.then ?_
                    refine T.cond_false rfl ?_
                    refine T.skip ?_
                    refine X.inBlock ?_
                    exact X.at ⟨(S), (n)⟩ ⟨hS, by omega⟩ (by repeat (first | exact Sub.nil _ | refine Sub.cons (by first | rfl | (rw [dgs_zero]; rfl) | (rw [List.drop_length]; rfl) | (simp; done) | (congr 2; omega) | (congr 3; omega)) ?_)) (by repeat (first | exact Sub.nil _ | refine Sub.cons (by first | rfl | (rw [dgs_zero]; rfl) | (rw [List.drop_length]; rfl) | (simp; done) | (congr 2; omega) | (congr 3; omega)) ?_))
                · skip
                  refine T.as 59 (.bool false) rfl (by rw [decide_eq_false h12]) ?_
                  refine T.seq ?_
                  refine T.seq ?_
                  refine T.text [.l, .l] rfl ?_
                  refine J.eql rfl rfl rfl rfl ?_
                  refine J.assign rfl rfl ?_
                  refine J.end ?_
                  refine X.then ?_
                  refine T.cond_dec rfl (fun h14 => ?_) (fun h14 => ?_)
                  · skip
                    refine T.as 79 (.bool true) rfl (by rw [decide_eq_true h14]) ?_
                    refine T.skip ?_
                    refine X.then ?_
                    refine T.cond_true rfl ?_
                    refine T.seq ?_
                    refine T.text [.l, .l, .l, .l, .l] rfl ?_
                    refine J.move rfl rfl ?_
                    refine J.fieldAddr fld52_2 rfl rfl ?_
                    refine J.load1 (k := .l) trivial 6 rfl rfl one3 (by first | rfl | with_reducible exact rowN_get0 _ _ _ (by omega) | with_reducible exact rowN_get1 _ _ _ (by omega) | with_reducible exact rowN_get1s _ _ _ _ (by omega) | exact rowN_get1 _ _ _ (by omega) | exact rowN_get1s _ _ _ _ (by omega) | exact rowN_get0 _ _ _ (by omega)) rfl ?_
                    refine J.callMut 11 rfl rfl fok30 rfl rfl (fun w hw => Sa.Dup w g11 S n hS (by omega) (hw.live 11 _ rfl) o.n hok1) ?_
                    refine J.eql rfl rfl rfl rfl ?_
                    refine J.end ?_
                    refine X.then ?_
                    refine T.cond_dec rfl (fun h15 => ?_) (fun h15 => ?_)
                    · have hy := h15
                      refine T.text [.l, .l, .l, .l] rfl ?_
                      refine J.move rfl rfl ?_
                      refine J.fieldAddr fld52_2 rfl rfl ?_
                      refine J.load1 (k := .l) trivial 6 rfl rfl one3 (by first | rfl | with_reducible exact rowN_get0 _ _ _ (by omega) | with_reducible exact rowN_get1 _ _ _ (by omega) | with_reducible exact rowN_get1s _ _ _ _ (by omega) | exact rowN_get1 _ _ _ (by omega) | exact rowN_get1s _ _ _ _ (by omega) | exact rowN_get0 _ _ _ (by omega)) rfl ?_
                      refine J.callMut 12 rfl rfl fok34 rfl rfl (fun w hw => Sa.Again w g12 S n hS (by omega) (hw.live 12 _ rfl) _) ?_
                      refine J.end ?_
                      refine X.inBlock ?_
                      refine X.asE 11 ⟨some g11, 89, stkM (S.set (ix n) (S.getD (ix (n - o.n)) 0)) (n + 1)⟩ rfl (by rw [(dup_yes (S := S) hy).1, (dup_yes (S := S) hy).2]) ?_
                      exact X.at ⟨(S.set (ix n) (S.getD (ix (n - o.n)) 0)), (n + 1)⟩ ⟨by first | exact hS | (rw [List.length_set]; exact hS) | (rw [swp_length]; exact hS), by omega⟩ (by repeat (first | exact Sub.nil _ | refine Sub.cons (by first | rfl | (rw [dgs_zero]; rfl) | (rw [List.drop_length]; rfl) | (simp; done) | (congr 2; omega) | (congr 3; omega)) ?_)) (by repeat (first | exact Sub.nil _ | refine Sub.cons (by first | rfl | (rw [dgs_zero]; rfl) | (rw [List.drop_length]; rfl) | (simp; done) | (congr 2; omega) | (congr 3; omega)) ?_))
                    · have hno := h15
                      refine T.skip ?_
                      refine X.inBlock ?_
                      refine X.asE 11 ⟨some g11, 89, stkM (S) (n)⟩ rfl (by rw [(dup_no (S := S) hno).1, (dup_no (S := S) hno).2]) ?_
                      exact X.at ⟨(S), (n)⟩ ⟨hS, by omega⟩ (by repeat (first | exact Sub.nil _ | refine Sub.cons (by first | rfl | (rw [dgs_zero]; rfl) | (rw [List.drop_length]; rfl) | (simp; done) | (congr 2; omega) | (congr 3; omega)) ?_)) (by repeat (first | exact Sub.nil _ | refine Sub.cons (by first | rfl | (rw [dgs_zero]; rfl) | (rw [List.drop_length]; rfl) | (simp; done) | (congr 2; omega) | (congr 3; omega)) ?_))
                  · skip
                    refine T.as 79 (.bool false) rfl (by rw [decide_eq_false h14]) ?_
                    refine T.text [.l, .l] rfl ?_
                    refine J.eql rfl rfl rfl rfl ?_
                    refine J.assign rfl rfl ?_
                    refine J.end ?_
                    refine X.then ?_
                    refine T.cond_dec rfl (fun h16 => ?_) (fun h16 => ?_)
                    · skip
                      refine T.as 79 (.bool true) rfl (by rw [decide_eq_true h16]) ?_
                      refine T.seq ?_
                      refine T.text [.l, .l, .l, .l, .l] rfl ?_
                      refine J.move rfl rfl ?_
                      refine J.fieldAddr fld52_2 rfl rfl ?_
                      refine J.load1 (k := .l) trivial 6 rfl rfl one3 (by first | rfl | with_reducible exact rowN_get0 _ _ _ (by omega) | with_reducible exact rowN_get1 _ _ _ (by omega) | with_reducible exact rowN_get1s _ _ _ _ (by omega) | exact rowN_get1 _ _ _ (by omega) | exact rowN_get1s _ _ _ _ (by omega) | exact rowN_get0 _ _ _ (by omega)) rfl ?_
                      refine J.callMut 11 rfl rfl fok30 rfl rfl (fun w hw => Sa.Dup w g11 S n hS (by omega) (hw.live 11 _ rfl) o.n hok1) ?_
                      refine J.eql rfl rfl rfl rfl ?_
                      refine J.end ?_
                      refine X.then ?_
                      refine T.cond_dec rfl (fun h17 => ?_) (fun h17 => ?_)
                      · have hy := h17
                        refine T.text [.l, .l, .l, .l] rfl ?_
                        refine J.move rfl rfl ?_
                        refine J.fieldAddr fld52_2 rfl rfl ?_
                        refine J.load1 (k := .l) trivial 6 rfl rfl one3 (by first | rfl | with_reducible exact rowN_get0 _ _ _ (by omega) | with_reducible exact rowN_get1 _ _ _ (by omega) | with_reducible exact rowN_get1s _ _ _ _ (by omega) | exact rowN_get1 _ _ _ (by omega) | exact rowN_get1s _ _ _ _ (by omega) | exact rowN_get0 _ _ _ (by omega)) rfl ?_
                        refine J.callMut 12 rfl rfl fok34 rfl rfl (fun w hw => Sa.Again w g12 S n hS (by omega) (hw.live 12 _ rfl) _) ?_
                        refine J.end ?_
                        refine X.inBlock ?_
                        refine X.asE 11 ⟨some g11, 89, stkM (S.set (ix n) (S.getD (ix (n - o.n)) 0)) (n + 1)⟩ rfl (by rw [(dup_yes (S := S) hy).1, (dup_yes (S := S) hy).2]) ?_
                        exact X.at ⟨(S.set (ix n) (S.getD (ix (n - o.n)) 0)), (n + 1)⟩ ⟨by first | exact hS | (rw [List.length_set]; exact hS) | (rw [swp_length]; exact hS), by omega⟩ (by repeat (first | exact Sub.nil _ | refine Sub.cons (by first | rfl | (rw [dgs_zero]; rfl) | (rw [List.drop_length]; rfl) | (simp; done) | (congr 2; omega) | (congr 3; omega)) ?_)) (by repeat (first | exact Sub.nil _ | refine Sub.cons (by first | rfl | (rw [dgs_zero]; rfl) | (rw [List.drop_length]; rfl) | (simp; done) | (congr 2; omega) | (congr 3; omega)) ?_))
                      · have hno := h17
                        refine T.skip ?_
                        refine X.inBlock ?_
                        refine X.asE 11 ⟨some g11, 89, stkM (S) (n)⟩ rfl (by rw [(dup_no (S := S) hno).1, (dup_no (S := S) hno).2]) ?_
                        exact X.at ⟨(S), (n)⟩ ⟨hS, by omega⟩ (by repeat (first | exact Sub.nil _ | refine Sub.cons (by first | rfl | (rw [dgs_zero]; rfl) | (rw [List.drop_length]; rfl) | (simp; done) | (congr 2; omega) | (congr 3; omega)) ?_)) (by repeat (first | exact Sub.nil _ | refine Sub.cons (by first | rfl | (rw [dgs_zero]; rfl) | (rw [List.drop_length]; rfl) | (simp; done) | (congr 2; omega) | (congr 3; omega)) ?_))
                    · skip
                      refine T.as 79 (.bool false) rfl (by rw [decide_eq_false h16]) ?_
                      refine T.seq ?_
                      refine T.text [.l, .l] rfl ?_
                      refine J.eql rfl rfl rfl rfl ?_
                      refine J.assign rfl rfl ?_
                      refine J.end ?_
                      refine X.then ?_
                      refine T.cond_dec rfl (fun h18 => ?_) (fun h18 => ?_)
                      · skip
                        refine T.seq ?_
                        refine T.text [.l, .l, .l, .l, .l] rfl ?_
                        refine J.move rfl rfl ?_
                        refine J.fieldAddr fld52_2 rfl rfl ?_
                        refine J.load1 (k := .l) trivial 6 rfl rfl one3 (by first | rfl | with_reducible exact rowN_get0 _ _ _ (by omega) | with_reducible exact rowN_get1 _ _ _ (by omega) | with_reducible exact rowN_get1s _ _ _ _ (by omega) | exact rowN_get1 _ _ _ (by omega) | exact rowN_get1s _ _ _ _ (by omega) | exact rowN_get0 _ _ _ (by omega)) rfl ?_
                        refine J.callMut 11 rfl rfl fok27 rfl rfl (fun w hw => Sa.Swap w g11 S n hS (by omega) (hw.live 11 _ rfl) o.n hok1) ?_
                        refine J.eql rfl rfl rfl rfl ?_
                        refine J.end ?_
                        refine X.then ?_
                        refine T.cond_dec rfl (fun h19 => ?_) (fun h19 => ?_)
                        · have hy := h19
                          refine T.text [.l, .l, .l, .l, .l] rfl ?_
                          refine J.move rfl rfl ?_
                          refine J.fieldAddr fld52_2 rfl rfl ?_
                          refine J.load1 (k := .l) trivial 6 rfl rfl one3 (by first | rfl | with_reducible exact rowN_get0 _ _ _ (by omega) | with_reducible exact rowN_get1 _ _ _ (by omega) | with_reducible exact rowN_get1s _ _ _ _ (by omega) | exact rowN_get1 _ _ _ (by omega) | exact rowN_get1s _ _ _ _ (by omega) | exact rowN_get0 _ _ _ (by omega)) rfl ?_
                          refine J.add rfl rfl rfl (by exact i64_ok _ (by omega)) ?_
                          refine J.callMut 12 rfl rfl fok28 rfl rfl (fun w hw => Sa.Turn w g12 S n hS (by omega) (hw.live 12 _ rfl) _ _) ?_
                          refine J.end ?_
                          refine X.inBlock ?_
                          refine X.asE 11 ⟨some g11, 89, stkM (swp S (ix (n - 1)) (ix (n - (o.n + 1)))) (n)⟩ rfl (by rw [swapS_yes hy]) ?_
                          exact X.at ⟨(swp S (ix (n - 1)) (ix (n - (o.n + 1)))), (n)⟩ ⟨by first | exact hS | (rw [List.length_set]; exact hS) | (rw [swp_length]; exact hS), by omega⟩ (by repeat (first | exact Sub.nil _ | refine Sub.cons (by first | rfl | (rw [dgs_zero]; rfl) | (rw [List.drop_length]; rfl) | (simp; done) | (congr 2; omega) | (congr 3; omega)) ?_)) (by repeat (first | exact Sub.nil _ | refine Sub.cons (by first | rfl | (rw [dgs_zero]; rfl) | (rw [List.drop_length]; rfl) | (simp; done) | (congr 2; omega) | (congr 3; omega)) ?_))
                        · have hno := h19
                          refine T.skip ?_
                          refine X.inBlock ?_
                          refine X.asE 11 ⟨some g11, 89, stkM (S) (n)⟩ rfl (by rw [swapS_no hno]) ?_
                          exact X.at ⟨(S), (n)⟩ ⟨hS, by omega⟩ (by repeat (first | exact Sub.nil _ | refine Sub.cons (by first | rfl | (rw [dgs_zero]; rfl) | (rw [List.drop_length]; rfl) | (simp; done) | (congr 2; omega) | (congr 3; omega)) ?_)) (by repeat (first | exact Sub.nil _ | refine Sub.cons (by first | rfl | (rw [dgs_zero]; rfl) | (rw [List.drop_length]; rfl) | (simp; done) | (congr 2; omega) | (congr 3; omega)) ?_))
                      · skip
                        refine T.seq ?_
                        refine T.seq ?_
                        refine T.text [.l, .l] rfl ?_
                        refine J.eql rfl rfl rfl rfl ?_
                        refine J.assign rfl rfl ?_
                        refine J.end ?_
                        refine X.then ?_
                        refine T.cond_dec rfl (fun h20 => ?_) (fun h20 => ?_)
                        · skip
                          refine T.as 103 (.bool true) rfl (by rw [decide_eq_true h20]) ?_
                          refine T.skip ?_
                          refine X.then ?_
                          refine T.cond_true rfl ?_
                          refine T.seq ?_
                          refine T.text [.l, .l, .l, .l, .l, .l, .l] rfl ?_
                          refine J.move rfl rfl ?_
                          refine J.fieldAddr fld52_2 rfl rfl ?_
                          refine J.load1 (k := .l) trivial 6 rfl rfl one3 (by first | rfl | with_reducible exact rowN_get0 _ _ _ (by omega) | with_reducible exact rowN_get1 _ _ _ (by omega) | with_reducible exact rowN_get1s _ _ _ _ (by omega) | exact rowN_get1 _ _ _ (by omega) | exact rowN_get1s _ _ _ _ (by omega) | exact rowN_get0 _ _ _ (by omega)) rfl ?_
                          refine J.fieldAddr fld52_3 rfl rfl ?_
                          refine J.load1 (k := .l) trivial 6 rfl rfl one3 (by first | rfl | with_reducible exact rowN_get0 _ _ _ (by omega) | with_reducible exact rowN_get1 _ _ _ (by omega) | with_reducible exact rowN_get1s _ _ _ _ (by omega) | exact rowN_get1 _ _ _ (by omega) | exact rowN_get1s _ _ _ _ (by omega) | exact rowN_get0 _ _ _ (by omega)) rfl ?_
                          refine J.callMut 11 rfl rfl fok29 rfl rfl (fun w hw => Sa.Exchange w g11 S n hS (by omega) (hw.live 11 _ rfl) o.n hok1 o.m hok2) ?_
                          refine J.eql rfl rfl rfl rfl ?_
                          refine J.end ?_
                          refine X.then ?_
                          refine T.cond_dec rfl (fun h21 => ?_) (fun h21 => ?_)
                          · have hy := h21
                            refine T.text [.l, .l, .l, .l, .l, .l, .l, .l, .l, .l, .l] rfl ?_
                            refine J.move rfl rfl ?_
                            refine J.fieldAddr fld52_2 rfl rfl ?_
                            refine J.load1 (k := .l) trivial 6 rfl rfl one3 (by first | rfl | with_reducible exact rowN_get0 _ _ _ (by omega) | with_reducible exact rowN_get1 _ _ _ (by omega) | with_reducible exact rowN_get1s _ _ _ _ (by omega) | exact rowN_get1 _ _ _ (by omega) | exact rowN_get1s _ _ _ _ (by omega) | exact rowN_get0 _ _ _ (by omega)) rfl ?_
                            refine J.fieldAddr fld52_3 rfl rfl ?_
                            refine J.load1 (k := .l) trivial 6 rfl rfl one3 (by first | rfl | with_reducible exact rowN_get0 _ _ _ (by omega) | with_reducible exact rowN_get1 _ _ _ (by omega) | with_reducible exact rowN_get1s _ _ _ _ (by omega) | exact rowN_get1 _ _ _ (by omega) | exact rowN_get1s _ _ _ _ (by omega) | exact rowN_get0 _ _ _ (by omega)) rfl ?_
                            refine J.add rfl rfl rfl (by exact i64_ok _ (by omega)) ?_
                            refine J.add rfl rfl rfl (by exact i64_ok _ (by omega)) ?_
                            refine J.fieldAddr fld52_2 rfl rfl ?_
                            refine J.load1 (k := .l) trivial 6 rfl rfl one3 (by first | rfl | with_reducible exact rowN_get0 _ _ _ (by omega) | with_reducible exact rowN_get1 _ _ _ (by omega) | with_reducible exact rowN_get1s _ _ _ _ (by omega) | exact rowN_get1 _ _ _ (by omega) | exact rowN_get1s _ _ _ _ (by omega) | exact rowN_get0 _ _ _ (by omega)) rfl ?_
                            refine J.add rfl rfl rfl (by exact i64_ok _ (by omega)) ?_
                            refine J.callMut 12 rfl rfl fok28 rfl rfl (fun w hw => Sa.Turn w g12 S n hS (by omega) (hw.live 12 _ rfl) _ _) ?_
                            refine J.end ?_
                            refine X.inBlock ?_
                            refine X.asE 11 ⟨some g11, 89, stkM (swp S (ix (n - (o.n + o.m + 1))) (ix (n - (o.n + 1)))) (n)⟩ rfl (by rw [exS_yes hy, swp_comm]) ?_
                            exact X.at ⟨(swp S (ix (n - (o.n + o.m + 1))) (ix (n - (o.n + 1)))), (n)⟩ ⟨by first | exact hS | (rw [List.length_set]; exact hS) | (rw [swp_length]; exact hS), by omega⟩ (by repeat (first | exact Sub.nil _ | refine Sub.cons (by first | rfl | (rw [dgs_zero]; rfl) | (rw [List.drop_length]; rfl) | (simp; done) | (congr 2; omega) | (congr 3; omega)) ?_)) (by repeat (first | exact Sub.nil _ | refine Sub.cons (by first | rfl | (rw [dgs_zero]; rfl) | (rw [List.drop_length]; rfl) | (simp; done) | (congr 2; omega) | (congr 3; omega)) ?_))
                          · have hno := h21
                            refine T.skip ?_
                            refine X.inBlock ?_
                            refine X.asE 11 ⟨some g11, 89, stkM (S) (n)⟩ rfl (by rw [exS_no hno]) ?_
                            exact X.at ⟨(S), (n)⟩ ⟨hS, by omega⟩ (by repeat (first | exact Sub.nil _ | refine Sub.cons (by first | rfl | (rw [dgs_zero]; rfl) | (rw [List.drop_length]; rfl) | (simp; done) | (congr 2; omega) | (congr 3; omega)) ?_)) (by repeat (first | exact Sub.nil _ | refine Sub.cons (by first | rfl | (rw [dgs_zero]; rfl) | (rw [List.drop_length]; rfl) | (simp; done) | (congr 2; omega) | (congr 3; omega)) ?_))
                        · skip
                          refine T.as 103 (.bool false) rfl (by rw [decide_eq_false h20]) ?_
                          refine T.text [.l, .l] rfl ?_
                          refine J.eql rfl rfl rfl rfl ?_
                          refine J.assign rfl rfl ?_
                          refine J.end ?_
                          refine X.then ?_
                          refine T.cond_dec rfl (fun h22 => ?_) (fun h22 => ?_)
                          · skip
                            refine T.as 103 (.bool true) rfl (by rw [decide_eq_true h22]) ?_
                            refine T.seq ?_
                            refine T.text [.l, .l, .l, .l, .l, .l, .l] rfl ?_
                            refine J.move rfl rfl ?_
                            refine J.fieldAddr fld52_2 rfl rfl ?_
                            refine J.load1 (k := .l) trivial 6 rfl rfl one3 (by first | rfl | with_reducible exact rowN_get0 _ _ _ (by omega) | with_reducible exact rowN_get1 _ _ _ (by omega) | with_reducible exact rowN_get1s _ _ _ _ (by omega) | exact rowN_get1 _ _ _ (by omega) | exact rowN_get1s _ _ _ _ (by omega) | exact rowN_get0 _ _ _ (by omega)) rfl ?_
                            refine J.fieldAddr fld52_3 rfl rfl ?_
                            refine J.load1 (k := .l) trivial 6 rfl rfl one3 (by first | rfl | with_reducible exact rowN_get0 _ _ _ (by omega) | with_reducible exact rowN_get1 _ _ _ (by omega) | with_reducible exact rowN_get1s _ _ _ _ (by omega) | exact rowN_get1 _ _ _ (by omega) | exact rowN_get1s _ _ _ _ (by omega) | exact rowN_get0 _ _ _ (by omega)) rfl ?_
                            refine J.callMut 11 rfl rfl fok29 rfl rfl (fun w hw => Sa.Exchange w g11 S n hS (by omega) (hw.live 11 _ rfl) o.n hok1 o.m hok2) ?_
                            refine J.eql rfl rfl rfl rfl ?_
                            refine J.end ?_
                            refine X.then ?_
                            refine T.cond_dec rfl (fun h23 => ?_) (fun h23 => ?_)
                            · have hy := h23
                              refine T.text [.l, .l, .l, .l, .l, .l, .l, .l, .l, .l, .l] rfl ?_
                              refine J.move rfl rfl ?_
                              refine J.fieldAddr fld52_2 rfl rfl ?_
                              refine J.load1 (k := .l) trivial 6 rfl rfl one3 (by first | rfl | with_reducible exact rowN_get0 _ _ _ (by omega) | with_reducible exact rowN_get1 _ _ _ (by omega) | with_reducible exact rowN_get1s _ _ _ _ (by omega) | exact rowN_get1 _ _ _ (by omega) | exact rowN_get1s _ _ _ _ (by omega) | exact rowN_get0 _ _ _ (by omega)) rfl ?_
                              refine J.fieldAddr fld52_3 rfl rfl ?_
                              refine J.load1 (k := .l) trivial 6 rfl rfl one3 (by first | rfl | with_reducible exact rowN_get0 _ _ _ (by omega) | with_reducible exact rowN_get1 _ _ _ (by omega) | with_reducible exact rowN_get1s _ _ _ _ (by omega) | exact rowN_get1 _ _ _ (by omega) | exact rowN_get1s _ _ _ _ (by omega) | exact rowN_get0 _ _ _ (by omega)) rfl ?_
                              refine J.add rfl rfl rfl (by exact i64_ok _ (by omega)) ?_
                              refine J.add rfl rfl rfl (by exact i64_ok _ (by omega)) ?_
                              refine J.fieldAddr fld52_2 rfl rfl ?_
                              refine J.load1 (k := .l) trivial 6 rfl rfl one3 (by first | rfl | with_reducible exact rowN_get0 _ _ _ (by omega) | with_reducible exact rowN_get1 _ _ _ (by omega) | with_reducible exact rowN_get1s _ _ _ _ (by omega) | exact rowN_get1 _ _ _ (by omega) | exact rowN_get1s _ _ _ _ (by omega) | exact rowN_get0 _ _ _ (by omega)) rfl ?_
                              refine J.add rfl rfl rfl (by exact i64_ok _ (by omega)) ?_
                              refine J.callMut 12 rfl rfl fok28 rfl rfl (fun w hw => Sa.Turn w g12 S n hS (by omega) (hw.live 12 _ rfl) _ _) ?_
                              refine J.end ?_
                              refine X.inBlock ?_
                              refine X.asE 11 ⟨some g11, 89, stkM (swp S (ix (n - (o.n + o.m + 1))) (ix (n - (o.n + 1)))) (n)⟩ rfl (by rw [exS_yes hy, swp_comm]) ?_
                              exact X.at ⟨(swp S (ix (n - (o.n + o.m + 1))) (ix (n - (o.n + 1)))), (n)⟩ ⟨by first | exact hS | (rw [List.length_set]; exact hS) | (rw [swp_length]; exact hS), by omega⟩ (by repeat (first | exact Sub.nil _ | refine Sub.cons (by first | rfl | (rw [dgs_zero]; rfl) | (rw [List.drop_length]; rfl) | (simp; done) | (congr 2; omega) | (congr 3; omega)) ?_)) (by repeat (first | exact Sub.nil _ | refine Sub.cons (by first | rfl | (rw [dgs_zero]; rfl) | (rw [List.drop_length]; rfl) | (simp; done) | (congr 2; omega) | (congr 3; omega)) ?_))
                            · have hno := h23
                              refine T.skip ?_
                              refine X.inBlock ?_
                              refine X.asE 11 ⟨some g11, 89, stkM (S) (n)⟩ rfl (by rw [exS_no hno]) ?_
                              exact X.at ⟨(S), (n)⟩ ⟨hS, by omega⟩ (by repeat (first | exact Sub.nil _ | refine Sub.cons (by first | rfl | (rw [dgs_zero]; rfl) | (rw [List.drop_length]; rfl) | (simp; done) | (congr 2; omega) | (congr 3; omega)) ?_)) (by repeat (first | exact Sub.nil _ | refine Sub.cons (by first | rfl | (rw [dgs_zero]; rfl) | (rw [List.drop_length]; rfl) | (simp; done) | (congr 2; omega) | (congr 3; omega)) ?_))
                          · skip
                            refine T.as 103 (.bool false) rfl (by rw [decide_eq_false h22]) ?_
                            refine T.skip ?_
                            refine X.inBlock ?_
                            exact X.at ⟨(S), (n)⟩ ⟨hS, by omega⟩ (by repeat (first | exact Sub.nil _ | refine Sub.cons (by first | rfl | (rw [dgs_zero]; rfl) | (rw [List.drop_length]; rfl) | (simp; done) | (congr 2; omega) | (congr 3; omega)) ?_)) (by repeat (first | exact Sub.nil _ | refine Sub.cons (by first | rfl | (rw [dgs_zero]; rfl) | (rw [List.drop_length]; rfl) | (simp; done) | (congr 2; omega) | (congr 3; omega)) ?_))
    · rintro ⟨S2, n2⟩ ⟨hS2, hn2⟩
      try dsimp only at *
      refine T.seq ?_
      refine T.text [.l, .l, .l, .l, .l] rfl ?_
      refine J.move rfl rfl ?_
      refine J.call0 (k := .l) trivial fok20 rfl rfl (fun w hw => Sa.Len w g11 S2 n2 hS2 (by omega) (hw.blkCs (k := 11) rfl)) ?_
      refine J.move rfl rfl ?_
      refine J.call0 (k := .l) trivial fok20 rfl rfl (fun w hw => Sa.Len w g12 S2 n2 hS2 (by omega) (hw.blkCs (k := 12) rfl)) ?_
      refine J.neq rfl rfl rfl (decide_eq_false (fun h => h rfl)) ?_
      refine J.end ?_
      refine X.then ?_
      refine T.cond_false rfl ?_
      refine T.skip ?_
      refine X.inBlock (X.then ?_)
      refine T.text [.l, .l, .l] rfl ?_
      refine J.move rfl rfl ?_
      refine J.add rfl rfl rfl (by first | exact add_nat _ 1 (by omega) | exact i64_ok _ (by omega) | exact rfl) ?_
      refine J.assign rfl rfl ?_
      refine J.end ?_
      exact X.round ⟨(i + 1), S2, n2⟩ ⟨by omega, hS2, hn2⟩ (by first | omega | (dsimp only; omega)) (by repeat (first | exact Sub.nil _ | refine Sub.cons (by first | rfl | (rw [dgs_zero]; rfl) | (rw [List.drop_length]; rfl) | (simp; done) | (congr 2; omega) | (congr 3; omega)) ?_)) (by repeat (first | exact Sub.nil _ | refine Sub.cons (by first | rfl | (rw [dgs_zero]; rfl) | (rw [List.drop_length]; rfl) | (simp; done) | (congr 2; omega) | (congr 3; omega)) ?_))
  · skip
    refine T.exit ?_
    refine X.then_exit (X.then_exit (X.inBlock_eq (X.then ?_)))
    refine T.seq ?_
    refine T.text [.l, .l, .l, .l, .l, .l, .l, .l, .l] rfl ?_
    refine J.move rfl rfl ?_
    refine J.callRowW 130 rfl (t := 25) fok23 rfl rfl (fun w hw => Sa.Words w g11 S n hS (by omega) (hw.blkCs (k := 11) rfl)) (fun zs130 r130 hz130 hr130 => ?_)
    refine J.move rfl rfl ?_
    refine J.callRowW 132 rfl (t := 25) fok23 rfl rfl (fun w hw => Sa.Words w g12 S n hS (by omega) (hw.blkCs (k := 12) rfl)) (fun zs132 r132 hz132 hr132 => ?_)
    refine J.call0 (k := .l) trivial fok22 rfl rfl (fun w hw => Aw.sameWords w _ _ _ (hw.rowCs (k := 130) rfl) _ _ _ (hw.rowCs (k := 132) rfl) (hz130.trans hz132.symm) (by rw [hz130, wordsS_length]; omega)) ?_
    refine J.move rfl rfl ?_
    refine J.yes rfl rfl ?_
    refine J.call0 (k := .l) trivial fok25 rfl rfl (fun w hw => Aw.awake w) ?_
    refine J.pick_t rfl rfl rfl ?_
    refine J.assign rfl rfl ?_
    refine J.end ?_
    refine X.then ?_
    refine T.ret ?_
    exact X.ret1 rfl (RV.tmp rfl) (fun w' hw' => ⟨rfl, hw'.sub (Sub.nil _)⟩)
end Go.Proofs.Ytpkjbeebhdgleaa.Ld
