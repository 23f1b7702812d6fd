/-
  Walks, printed by gen.py: what each function hands back, said of numbers.
  Conditions: those that each theorem bears.
-/
import Derived.Test.YtpkjbeebhdgleaaChecked
import Derived.Test.YtpkjbeebhdgleaaPg
import Derived.Test.YtpkjbeebhdgleaaFr
import Derived.Test.YtpkjbeebhdgleaaOb
set_option linter.unusedVariables false
set_option maxRecDepth 20000
namespace Go.Proofs.Ytpkjbeebhdgleaa.Lj
open Go Go.Fw

theorem sz67 : SizeT Try.prog 67 32 := (by unfold SizeT; kernel_rfl)
theorem fok40 : FnOk Try.prog 40 := FnOk.mk' Try.func40 (by kernel_rfl) rfl
theorem sz52 : SizeT Try.prog 52 14 := (by unfold SizeT; kernel_rfl)
theorem sl50 : SlT Try.prog 50 52 14 := ⟨Try.underlying50, sz52⟩
theorem agg52 : AggT Try.prog 52 14 := ⟨⟨_, Try.underlying52, rfl⟩, by kernel_rfl⟩
theorem zero52 : ZeroT Try.prog 52 (.agg ([.int .i64 0, .bool false, .int .i64 0, .int .i64 0, .int .i64 0, .int .u64 0, .int .u64 0, .int .u64 0, .int .u64 0, .int .u64 0, .int .u64 0, .int .u64 0, .int .u64 0, .slice none 0 0]).toArray) := (by unfold ZeroT; kernel_rfl)
theorem fok37 : FnOk Try.prog 37 := FnOk.mk' Try.func37 (by kernel_rfl) rfl
theorem sz3 : SizeT Try.prog 3 1 := (by unfold SizeT; kernel_rfl)
theorem fld52_0 : FldT Try.prog 52 0 3 0 0 := ⟨by kernel_rfl, sz3⟩
theorem one3 : OneT Try.prog 3 := ⟨⟨_, Try.underlying3, rfl⟩, by kernel_rfl⟩
theorem fld52_2 : FldT Try.prog 52 2 3 2 0 := ⟨by kernel_rfl, sz3⟩
theorem fok41 : FnOk Try.prog 41 := FnOk.mk' Try.func41 (by kernel_rfl) rfl
theorem el5 : ElT Try.prog 5 1 1 (.int .u8 0) := ⟨by kernel_rfl, rfl, by decide, by decide⟩
theorem sz25 : SizeT Try.prog 25 4 := (by unfold SizeT; kernel_rfl)
theorem fld52_5 : FldT Try.prog 52 5 25 5 3 := ⟨by kernel_rfl, sz25⟩
theorem agg25 : AggT Try.prog 25 4 := ⟨⟨_, Try.underlying25, rfl⟩, by kernel_rfl⟩
theorem fok42 : FnOk Try.prog 42 := FnOk.mk' Try.func42 (by kernel_rfl) rfl
theorem zero67 : ZeroT Try.prog 67 (.agg ([.int .u8 0, .int .u8 0, .int .u8 0, .int .u8 0, .int .u8 0, .int .u8 0, .int .u8 0, .int .u8 0, .int .u8 0, .int .u8 0, .int .u8 0, .int .u8 0, .int .u8 0, .int .u8 0, .int .u8 0, .int .u8 0, .int .u8 0, .int .u8 0, .int .u8 0, .int .u8 0, .int .u8 0, .int .u8 0, .int .u8 0, .int .u8 0, .int .u8 0, .int .u8 0, .int .u8 0, .int .u8 0, .int .u8 0, .int .u8 0, .int .u8 0, .int .u8 0]).toArray) := (by unfold ZeroT; kernel_rfl)
theorem fok43 : FnOk Try.prog 43 := FnOk.mk' Try.func43 (by kernel_rfl) rfl
theorem sz5 : SizeT Try.prog 5 1 := (by unfold SizeT; kernel_rfl)
theorem arr67 : ArrT Try.prog 67 32 5 1 := ⟨Try.underlying67, sz5⟩
theorem one5 : OneT Try.prog 5 := ⟨⟨_, Try.underlying5, rfl⟩, by kernel_rfl⟩
theorem sl22 : SlT Try.prog 22 5 1 := ⟨Try.underlying22, sz5⟩
theorem fld52_3 : FldT Try.prog 52 3 3 3 0 := ⟨by kernel_rfl, sz3⟩
theorem fok44 : FnOk Try.prog 44 := FnOk.mk' Try.func44 (by kernel_rfl) rfl
theorem sz22 : SizeT Try.prog 22 1 := (by unfold SizeT; kernel_rfl)
theorem fld52_7 : FldT Try.prog 52 7 22 13 0 := ⟨by kernel_rfl, sz22⟩
theorem one22 : OneT Try.prog 22 := ⟨⟨_, Try.underlying22, rfl⟩, by kernel_rfl⟩
theorem fok45 : FnOk Try.prog 45 := FnOk.mk' Try.func45 (by kernel_rfl) rfl
theorem fld52_4 : FldT Try.prog 52 4 3 4 0 := ⟨by kernel_rfl, sz3⟩
theorem fok46 : FnOk Try.prog 46 := FnOk.mk' Try.func46 (by kernel_rfl) rfl
theorem fok47 : FnOk Try.prog 47 := FnOk.mk' Try.func47 (by kernel_rfl) rfl
theorem fok39 : FnOk Try.prog 39 := FnOk.mk' Try.func39 (by kernel_rfl) rfl

set_option maxRecDepth 100000 in
set_option maxHeartbeats 1000000 in
theorem MachKeeps (w : World) (A0 : Option Addr) (c0 : Nat) (os : List OpD) (hc0 : Cs w A0 (rowO os)) (hok0 : ∀ i, i < os.length → (os.getD i OpD.zero).Ok w) (hb0 : os.length ≤ 9223372036854775807) :
    Calls Try.prog 9 [.slice A0 os.length c0].toArray w fun e w' => e = .returned (.bool true) ∧ WS w [] [] w' := by
  refine calls_of_T [] 287 [] Try.func9 rfl Try.ntmps9 (by simp) (WS.refl _ _) ?_
  refine T.seq ?_
  refine T.text [.l] rfl ?_
  refine J.assign rfl rfl ?_
  refine J.end ?_
  refine X.then ?_
  refine T.seq ?_
  refine T.text [.l, .l] rfl ?_
  refine J.callNew 17 rfl (t := 99) (cs := [.slice none 0 0]) fok40 rfl rfl (fun w hw => Me.NewMemory w) (fun g17 hg17 => ?_)
  refine J.assign rfl rfl ?_
  refine J.end ?_
  refine X.addNil 18 5 ?_
  refine X.then ?_
  refine T.seq ?_
  refine T.seq ?_
  refine T.text [.l, .l] rfl ?_
  refine J.move rfl rfl ?_
  refine J.eqNil (by kernel_rfl) rfl rfl rfl rfl ?_
  refine J.end ?_
  refine X.then ?_
  refine T.cond_false rfl ?_
  refine T.skip ?_
  refine X.then ?_
  refine T.seq ?_
  refine T.text [.l] rfl ?_
  refine J.assign rfl rfl ?_
  refine J.end ?_
  refine X.then ?_
  refine T.seq ?_
  refine T.seq ?_
  refine T.text [.l] rfl ?_
  refine J.assign rfl rfl ?_
  refine J.end ?_
  refine X.then ?_
  refine T.block ?_
  refine T.addNil 4 5 ?_
  refine T.loop (ι := Nat × List Nat × RowIx × RowIx) (fun ((i, bs, i1, r) : Nat × List Nat × RowIx × RowIx) => i ≤ os.length ∧ i ≤ 60 ∧ MOk i1 bs ∧ r.Ok 1 bs.length) (fun ((i, bs, i1, r) : Nat × List Nat × RowIx × RowIx) => [(0, .slice A0 os.length c0), (3, .pointer (some ⟨g17, 0, none⟩)), (5, .int .i64 (i : Int)), (4, r.val bs.length)]) (fun ((i, bs, i1, r) : Nat × List Nat × RowIx × RowIx) => [(17, ⟨some g17, 99, [i1.val (bs).length]⟩), (18, i1.ent 5 (rowN .u8 (bs))), (4, r.ent 5 (rowN .u8 (bs)))]) (fun ((i, bs, i1, r) : Nat × List Nat × RowIx × RowIx) => 60 - i) ⟨0, [], RowIx.nil, RowIx.nil⟩ ⟨Nat.zero_le _, Nat.zero_le _, MOk.nil, RowIx.nil_ok 1⟩ (by repeat (first | exact Sub.nil _ | refine Sub.cons (by first | rfl | (rw [dgs_zero]; rfl) | (rw [List.drop_length]; rfl) | (simp; done) | (congr 2; omega) | (congr 3; omega)) ?_)) (by repeat (first | exact Sub.nil _ | refine Sub.cons (by first | rfl | (rw [dgs_zero]; rfl) | (rw [List.drop_length]; rfl) | (simp; done) | (congr 2; omega) | (congr 3; omega)) ?_)) ?_
  rintro ⟨i, bs, i1, r⟩ ⟨hi, hi60, hm, hr⟩
  try dsimp only at *
  refine T.seq ?_
  refine T.seq ?_
  refine T.text [.l, .l, .l, .l, .l, .l, .l, .l] rfl ?_
  refine J.move rfl rfl ?_
  refine J.move rfl rfl ?_
  refine J.lenSl Try.underlying50 rfl rfl ?_
  refine J.lss rfl rfl rfl rfl ?_
  refine J.move rfl rfl ?_
  refine J.split 24 rfl (fun h1 => ?_) (fun h1 => ?_)
  · skip
    refine J.yes rfl rfl ?_
    refine J.move rfl rfl ?_
    refine J.yes rfl rfl ?_
    refine J.lss rfl rfl rfl rfl ?_
    refine J.pick_t rfl rfl rfl ?_
    refine J.end ?_
    refine X.then ?_
    refine T.cond_dec rfl (fun h2 => ?_) (fun h2 => ?_)
    · skip
      refine T.skip ?_
      refine X.then ?_
      refine T.seq ?_
      refine T.block ?_
      refine T.seq ?_
      refine T.text [.l, .l, .l, .l, .l, .l] rfl ?_
      refine J.move rfl rfl ?_
      refine J.move rfl rfl ?_
      refine J.indexSlI sl50 rfl (hc0.isSome (by rw [rowO_length]; omega)) rfl (by omega) (by omega) (by first | exact Int.toNat_natCast _ | rfl) rfl ?_
      refine J.loadIN (k := .l) trivial hc0 (off_nil _) rfl agg52 (os.getD i OpD.zero).cs rfl (rowO_seg _ _ (by omega)) rfl ?_
      have hok := hok0 i (by omega)
      obtain ⟨o, ho⟩ : ∃ o, os.getD i OpD.zero = o := ⟨_, rfl⟩
      rw [ho] at hok ⊢
      have hok1 := hok.n
      have hok2 := hok.m
      have hok3 := hok.p
      unfold i64r at hok1 hok2 hok3
      have hle := hm.le
      have hmul := hm.mul
      have hokl := hok.le
      have hokm := hok.max
      unfold maxLen at hokm
      refine J.alloc 6 rfl zero52 [.int .i64 0, .bool false, .int .i64 0, .int .i64 0, .int .i64 0, .int .u64 0, .int .u64 0, .int .u64 0, .int .u64 0, .int .u64 0, .int .u64 0, .int .u64 0, .int .u64 0, .slice none 0 0] rfl rfl (fun g6 hg6 => ?_)
      refine J.store 6 rfl rfl rfl rfl o.cs rfl sz52 (Nat.le_refl 14) (by intro u hu; simp [rowN] at hu; rcases hu with rfl | rfl | rfl | rfl | rfl | hu; rfl; rfl; rfl; rfl; rfl; rcases hu with ⟨a, _, rfl⟩ | ⟨a, _, rfl⟩ | rfl; rfl; rfl; rfl) (by show 0 < 14; omega) trivial o.cs rfl ?_
      refine J.end ?_
      refine X.then ?_
      refine T.seq ?_
      refine T.text [.l, .l, .l] rfl ?_
      refine J.move rfl rfl ?_
      refine J.call0 (k := .l) trivial fok37 rfl rfl (fun w hw => Me.Len w g17 i1 bs hm (hw.memAt 17 18 rfl rfl (by decide))) ?_
      refine J.assign rfl rfl ?_
      refine J.end ?_
      refine X.then ?_
      refine T.meet (ι := List Nat × RowIx × RowIx) (fun ((bs2, i2, r2) : List Nat × RowIx × RowIx) => MOk i2 bs2 ∧ r2.Ok 1 bs2.length ∧ bs.length ≤ bs2.length) (fun ((bs2, i2, r2) : List Nat × RowIx × RowIx) => [(0, .slice A0 os.length c0), (3, .pointer (some ⟨g17, 0, none⟩)), (5, .int .i64 (i : Int)), (7, .int .i64 ((bs.length : Nat) : Int)), (4, r2.val bs2.length)]) (fun ((bs2, i2, r2) : List Nat × RowIx × RowIx) => [(17, ⟨some g17, 99, [i2.val (bs2).length]⟩), (18, i2.ent 5 (rowN .u8 (bs2))), (4, r2.ent 5 (rowN .u8 (bs2)))]) ?_ ?_
      · -- up to where the ways meet
        refine T.seq ?_
        refine T.text [.l, .l] rfl ?_
        refine J.fieldAddr fld52_0 rfl rfl ?_
        refine J.load1 (k := .l) trivial 6 rfl rfl one3 (by first | rfl | with_reducible exact rowN_get0 _ _ _ (by omega) | with_reducible exact rowN_get1 _ _ _ (by omega) | with_reducible exact rowN_get1s _ _ _ _ (by omega) | exact rowN_get1 _ _ _ (by omega) | exact rowN_get1s _ _ _ _ (by omega) | exact rowN_get0 _ _ _ (by omega)) rfl ?_
        refine J.end ?_
        refine X.then ?_
        refine T.block ?_
        refine T.seq ?_
        refine T.text [.l, .l] rfl ?_
        refine J.eql rfl rfl rfl rfl ?_
        refine J.assign rfl rfl ?_
        refine J.end ?_
        refine X.then ?_
        refine T.cond_dec rfl (fun h3 => ?_) (fun h3 => ?_)
        · skip
          refine T.seq ?_
          refine T.seq ?_
          refine T.text [.l, .l, .l] rfl ?_
          refine J.fieldAddr fld52_2 rfl rfl ?_
          refine J.load1 (k := .l) trivial 6 rfl rfl one3 (by first | rfl | with_reducible exact rowN_get0 _ _ _ (by omega) | with_reducible exact rowN_get1 _ _ _ (by omega) | with_reducible exact rowN_get1s _ _ _ _ (by omega) | exact rowN_get1 _ _ _ (by omega) | exact rowN_get1s _ _ _ _ (by omega) | exact rowN_get0 _ _ _ (by omega)) rfl ?_
          refine J.gtr rfl rfl rfl rfl ?_
          refine J.end ?_
          refine X.then ?_
          refine T.cond_dec rfl (fun h4 => ?_) (fun h4 => ?_)
          · skip
            refine T.exit ?_
            refine X.then_exit (X.inBlock_ne rfl (X.then_exit (X.inBlock_eq (X.then ?_))))
            refine T.text [.l, .l, .l] rfl ?_
            refine J.move rfl rfl ?_
            refine J.add rfl rfl rfl (by first | exact add_nat _ 1 (by omega) | exact i64_ok _ (by omega) | exact rfl) ?_
            refine J.assign rfl rfl ?_
            refine J.end ?_
            exact X.round ⟨(i + 1), bs, i1, r⟩ ⟨by omega, by omega, hm, hr⟩ (by first | omega | (dsimp only; omega)) (by repeat (first | exact Sub.nil _ | refine Sub.cons (by first | rfl | (rw [dgs_zero]; rfl) | (rw [List.drop_length]; rfl) | (simp; done) | (congr 2; omega) | (congr 3; omega)) ?_)) (by repeat (first | exact Sub.nil _ | refine Sub.cons (by first | rfl | (rw [dgs_zero]; rfl) | (rw [List.drop_length]; rfl) | (simp; done) | (congr 2; omega) | (congr 3; omega)) ?_))
          · skip
            refine T.skip ?_
            refine X.then ?_
            refine T.seq ?_
            refine T.text [.l, .l, .l, .l, .l] rfl ?_
            refine J.move rfl rfl ?_
            refine J.fieldAddr fld52_2 rfl rfl ?_
            refine J.load1 (k := .l) trivial 6 rfl rfl one3 (by first | rfl | with_reducible exact rowN_get0 _ _ _ (by omega) | with_reducible exact rowN_get1 _ _ _ (by omega) | with_reducible exact rowN_get1s _ _ _ _ (by omega) | exact rowN_get1 _ _ _ (by omega) | exact rowN_get1s _ _ _ _ (by omega) | exact rowN_get0 _ _ _ (by omega)) rfl ?_
            refine J.callMem 17 18 (by decide) (g := g17) (i := i1) (bs := bs) (bs' := growB bs o.n) rfl rfl rfl rfl fok41 rfl rfl (fun w hw => Me.Grow w g17 i1 bs hm (hw.memAt 17 18 rfl rfl (by decide)) _ (by omega)) (fun i46 hm46 => ?_)
            have hG := growL_cases (L := bs.length) (u := o.n) (by omega)
            have hgl := growB_length bs o.n
            refine J.assign rfl rfl ?_
            refine J.end ?_
            refine X.then ?_
            refine T.seq ?_
            refine T.seq ?_
            refine T.text [.l, .l, .l, .l, .l, .l] rfl ?_
            refine J.move rfl rfl ?_
            refine J.eql rfl rfl rfl rfl ?_
            refine J.fieldAddr fld52_2 rfl rfl ?_
            refine J.load1 (k := .l) trivial 6 rfl rfl one3 (by first | rfl | with_reducible exact rowN_get0 _ _ _ (by omega) | with_reducible exact rowN_get1 _ _ _ (by omega) | with_reducible exact rowN_get1s _ _ _ _ (by omega) | exact rowN_get1 _ _ _ (by omega) | exact rowN_get1s _ _ _ _ (by omega) | exact rowN_get0 _ _ _ (by omega)) rfl ?_
            refine J.geq rfl rfl rfl rfl ?_
            refine J.neqB Try.underlying4 rfl rfl rfl (neq_iff (growE_iff (by omega))) ?_
            refine J.end ?_
            refine X.then ?_
            refine T.cond_false rfl ?_
            refine T.skip ?_
            refine X.then ?_
            refine T.block ?_
            refine T.as 4 (r.val (bs ++ List.replicate 0 0).length) rfl (by rw [List.replicate_zero, List.append_nil]) ?_
            refine T.asE 4 (r.ent 5 (rowN .u8 (bs ++ List.replicate 0 0))) rfl (by rw [List.replicate_zero, List.append_nil]) ?_
            refine T.loop (ι := Nat × RowIx) (fun ((q, r2) : Nat × RowIx) => bs.length + q ≤ growL bs.length o.n ∧ r2.Ok 1 (bs ++ List.replicate q 0).length) (fun ((q, r2) : Nat × RowIx) => [(0, .slice A0 os.length c0), (3, .pointer (some ⟨g17, 0, none⟩)), (5, .int .i64 (i : Int)), (20, .int .i64 (i : Int)), (21, .slice A0 os.length c0), (22, .int .i64 ((os.length : Nat) : Int)), (24, .bool true), (25, .int .i64 (i : Int)), (30, .slice A0 os.length c0), (31, .int .i64 (i : Int)), (6, .pointer (some ⟨g6, 0, none⟩)), (34, .pointer (some ⟨g17, 0, none⟩)), (35, .int .i64 ((bs.length : Nat) : Int)), (7, .int .i64 ((bs.length : Nat) : Int)), (43, .pointer (some ⟨g17, 0, none⟩)), (52, .bool false), (4, r2.val (bs ++ List.replicate q 0).length)]) (fun ((q, r2) : Nat × RowIx) => [(17, ⟨some g17, 99, [i46.val (growB bs o.n).length]⟩), (18, i46.ent 5 (rowN .u8 (growB bs o.n))), (6, ⟨some g6, 52, o.cs⟩), (4, r2.ent 5 (rowN .u8 (bs ++ List.replicate q 0)))]) (fun ((q, r2) : Nat × RowIx) => growL bs.length o.n - (bs.length + q)) ⟨0, r⟩ ⟨by omega, by rw [List.replicate_zero, List.append_nil]; exact hr⟩ (by repeat (first | exact Sub.nil _ | refine Sub.cons (by first | rfl | (rw [dgs_zero]; rfl) | (rw [List.drop_length]; rfl) | (simp; done) | (congr 2; omega) | (congr 3; omega)) ?_)) (by repeat (first | exact Sub.nil _ | refine Sub.cons (by first | rfl | (rw [dgs_zero]; rfl) | (rw [List.drop_length]; rfl) | (simp; done) | (congr 2; omega) | (congr 3; omega)) ?_)) ?_
            rintro ⟨q, r2⟩ ⟨hq, hr2⟩
            try dsimp only at *
            have hql : (bs ++ List.replicate q 0).length = bs.length + q := by rw [List.length_append, List.length_replicate]
            refine T.seq ?_
            refine T.seq ?_
            refine T.text [.l, .l, .l, .l, .l, .l, .l, .l, .l, .l, .l] rfl ?_
            refine J.move rfl rfl ?_
            refine J.lenSl Try.underlying22 rfl rfl ?_
            refine J.fieldAddr fld52_2 rfl rfl ?_
            refine J.load1 (k := .l) trivial 6 rfl rfl one3 (by first | rfl | with_reducible exact rowN_get0 _ _ _ (by omega) | with_reducible exact rowN_get1 _ _ _ (by omega) | with_reducible exact rowN_get1s _ _ _ _ (by omega) | exact rowN_get1 _ _ _ (by omega) | exact rowN_get1s _ _ _ _ (by omega) | exact rowN_get0 _ _ _ (by omega)) rfl ?_
            refine J.lss rfl rfl rfl rfl ?_
            refine J.move rfl rfl ?_
            refine J.split 58 rfl (fun h5 => ?_) (fun h5 => ?_)
            · skip
              refine J.no rfl rfl rfl rfl ?_
              refine J.no rfl rfl rfl rfl ?_
              refine J.no rfl rfl rfl rfl ?_
              refine J.no rfl rfl rfl rfl ?_
              refine J.pick_t rfl rfl rfl ?_
              refine J.end ?_
              refine X.then ?_
              refine T.cond_true rfl ?_
              refine T.skip ?_
              refine X.then ?_
              refine T.block ?_
              refine T.text [.l, .l, .l, .l] rfl ?_
              refine J.move rfl rfl ?_
              refine J.lit1 65 rfl Try.underlying22 el5 (by decide) rfl (rowN .u8 [0]) rfl rfl rfl (fun g65 hg65 => ?_)
              refine J.append 4 rfl Try.underlying22 el5 rfl hr2 (by rw [rowN_length, Nat.mul_one]) rfl rfl rfl (fun w hw => (hw.blkCs (k := 65) rfl)) (rowN_one _ _) (by omega) (by unfold maxLen; omega) rfl (bs ++ List.replicate (q + 1) 0).length (by simp; omega) (rowN .u8 (bs ++ List.replicate (q + 1) 0)) (by rw [← rowN_append, List.append_assoc, ← List.replicate_succ']) (fun r66 hr66 => ?_)
              refine J.assign rfl rfl ?_
              refine J.end ?_
              refine X.inBlock ?_
              exact X.round ⟨(q + 1), r66⟩ ⟨by omega, hr66⟩ (by first | omega | (dsimp only; omega)) (by repeat (first | exact Sub.nil _ | refine Sub.cons (by first | rfl | (rw [dgs_zero]; rfl) | (rw [List.drop_length]; rfl) | (simp; done) | (congr 2; omega) | (congr 3; omega)) ?_)) (by repeat (first | exact Sub.nil _ | refine Sub.cons (by first | rfl | (rw [dgs_zero]; rfl) | (rw [List.drop_length]; rfl) | (simp; done) | (congr 2; omega) | (congr 3; omega)) ?_))
            · skip
              refine J.yes rfl rfl ?_
              refine J.move rfl rfl ?_
              refine J.yes rfl rfl ?_
              refine J.lenSl Try.underlying22 rfl rfl ?_
              refine J.yes rfl rfl ?_
              refine J.rem rfl rfl rfl (by omega) (by first | exact rem_nat _ 32 | exact rem_ok _ _ (by omega) | exact rfl) ?_
              refine J.yes rfl rfl ?_
              refine J.neq rfl rfl rfl rfl ?_
              refine J.pick_f rfl rfl rfl ?_
              refine J.end ?_
              refine X.then ?_
              refine T.cond_dec rfl (fun h6 => ?_) (fun h6 => ?_)
              · skip
                refine T.skip ?_
                refine X.then ?_
                refine T.block ?_
                refine T.text [.l, .l, .l, .l] rfl ?_
                refine J.move rfl rfl ?_
                refine J.lit1 65 rfl Try.underlying22 el5 (by decide) rfl (rowN .u8 [0]) rfl rfl rfl (fun g65 hg65 => ?_)
                refine J.append 4 rfl Try.underlying22 el5 rfl hr2 (by rw [rowN_length, Nat.mul_one]) rfl rfl rfl (fun w hw => (hw.blkCs (k := 65) rfl)) (rowN_one _ _) (by omega) (by unfold maxLen; omega) rfl (bs ++ List.replicate (q + 1) 0).length (by simp; omega) (rowN .u8 (bs ++ List.replicate (q + 1) 0)) (by rw [← rowN_append, List.append_assoc, ← List.replicate_succ']) (fun r66 hr66 => ?_)
                refine J.assign rfl rfl ?_
                refine J.end ?_
                refine X.inBlock ?_
                exact X.round ⟨(q + 1), r66⟩ ⟨by omega, hr66⟩ (by first | omega | (dsimp only; omega)) (by repeat (first | exact Sub.nil _ | refine Sub.cons (by first | rfl | (rw [dgs_zero]; rfl) | (rw [List.drop_length]; rfl) | (simp; done) | (congr 2; omega) | (congr 3; omega)) ?_)) (by repeat (first | exact Sub.nil _ | refine Sub.cons (by first | rfl | (rw [dgs_zero]; rfl) | (rw [List.drop_length]; rfl) | (simp; done) | (congr 2; omega) | (congr 3; omega)) ?_))
              · have hge := growB_eq (bs := bs) (u := o.n) (q := q) (by omega)
                rw [hge] at hr2 ⊢
                refine T.exit ?_
                refine X.then_exit (X.then_exit (X.inBlock_eq (X.inBlock ?_)))
                refine X.as 4 (r2.val (growB bs o.n).length) rfl (by first | rfl | rw [writeB_length]) ?_
                exact X.at ⟨(growB bs o.n), i46, r2⟩ ⟨hm46, by first | exact hr2 | (rw [writeB_length]; exact hr2), by (try dsimp only); first | omega | exact Nat.le_of_eq (writeB_length _ _ _).symm⟩ (by repeat (first | exact Sub.nil _ | refine Sub.cons (by first | rfl | (rw [dgs_zero]; rfl) | (rw [List.drop_length]; rfl) | (simp; done) | (congr 2; omega) | (congr 3; omega)) ?_)) (by repeat (first | exact Sub.nil _ | refine Sub.cons (by first | rfl | (rw [dgs_zero]; rfl) | (rw [List.drop_length]; rfl) | (simp; done) | (congr 2; omega) | (congr 3; omega)) ?_))
        · skip
          refine T.seq ?_
          refine T.text [.l, .l] rfl ?_
          refine J.eql rfl rfl rfl rfl ?_
          refine J.assign rfl rfl ?_
          refine J.end ?_
          refine X.then ?_
          refine T.cond_dec rfl (fun h7 => ?_) (fun h7 => ?_)
          · skip
            refine T.seq ?_
            refine T.text [.l, .l, .l, .l, .l] rfl ?_
            refine J.fieldAddr fld52_5 rfl rfl ?_
            refine J.loadW (k := .l) trivial 6 rfl rfl agg25 (by first | rfl | with_reducible exact rowW_seg0 _ _ _ (by omega) | with_reducible exact rowW_seg00 _ _ (by omega) | with_reducible exact rowW_segs _ _ _ (by omega) | with_reducible exact rowW_seg _ _ (by omega) | with_reducible exact rowW_segb _ _ _ (by omega) | exact rowW_seg _ _ (by omega) | exact rowW_segs _ _ _ (by omega)) rfl ?_
            refine J.call0 (k := .l) trivial fok42 rfl rfl (fun w hw => Wa.Bytes w _) ?_
            have hbl := bytesN_length o.x
            have hbd := bytesN_dg o.x
            refine J.alloc 9 rfl zero67 [.int .u8 0, .int .u8 0, .int .u8 0, .int .u8 0, .int .u8 0, .int .u8 0, .int .u8 0, .int .u8 0, .int .u8 0, .int .u8 0, .int .u8 0, .int .u8 0, .int .u8 0, .int .u8 0, .int .u8 0, .int .u8 0, .int .u8 0, .int .u8 0, .int .u8 0, .int .u8 0, .int .u8 0, .int .u8 0, .int .u8 0, .int .u8 0, .int .u8 0, .int .u8 0, .int .u8 0, .int .u8 0, .int .u8 0, .int .u8 0, .int .u8 0, .int .u8 0] rfl rfl (fun g9 hg9 => ?_)
            refine J.store 9 rfl rfl rfl rfl (rowN .u8 (bytesN o.x)) rfl (by rw [rowN_length, bytesN_length]; exact sz67) (by rw [rowN_length, bytesN_length]; exact Nat.le_refl _) (by first | exact rowN_one _ _ | (simp; done) | (intro u hu; simp at hu; subst hu; rfl) | (intro u hu; simp at hu; rcases hu with rfl | rfl <;> rfl)) (by rw [rowN_length, bytesN_length]; decide) trivial (rowN .u8 (bytesN o.x)) (by unfold put; rw [rowN_length, bytesN_length]; exact List.append_nil _) ?_
            refine J.end ?_
            refine X.then ?_
            refine T.seq ?_
            refine T.text [.l, .l, .l, .l, .l, .l, .l] rfl ?_
            refine J.move rfl rfl ?_
            refine J.fieldAddr fld52_2 rfl rfl ?_
            refine J.load1 (k := .l) trivial 6 rfl rfl one3 (by first | rfl | with_reducible exact rowN_get0 _ _ _ (by omega) | with_reducible exact rowN_get1 _ _ _ (by omega) | with_reducible exact rowN_get1s _ _ _ _ (by omega) | exact rowN_get1 _ _ _ (by omega) | exact rowN_get1s _ _ _ _ (by omega) | exact rowN_get0 _ _ _ (by omega)) rfl ?_
            refine J.fieldAddr fld52_5 rfl rfl ?_
            refine J.loadW (k := .l) trivial 6 rfl rfl agg25 (by first | rfl | with_reducible exact rowW_seg0 _ _ _ (by omega) | with_reducible exact rowW_seg00 _ _ (by omega) | with_reducible exact rowW_segs _ _ _ (by omega) | with_reducible exact rowW_seg _ _ (by omega) | with_reducible exact rowW_segb _ _ _ (by omega) | exact rowW_seg _ _ (by omega) | exact rowW_segs _ _ _ (by omega)) rfl ?_
            refine J.callMem 17 18 (by decide) (g := g17) (i := i1) (bs := bs) (bs' := writeB bs o.n (bytesN o.x)) rfl rfl rfl rfl fok43 rfl rfl (fun w hw => Me.Store w g17 i1 bs hm (hw.memAt 17 18 rfl rfl (by decide)) _ (by omega) _) (fun i77 hm77 => ?_)
            refine J.eql rfl rfl rfl rfl ?_
            refine J.end ?_
            refine X.then ?_
            refine T.cond_dec rfl (fun h8 => ?_) (fun h8 => ?_)
            · have hE : pieceE bs.length o.n (((bytesN o.x).length : Nat) : Int) = 0 := by rw [hbl]; first | exact (show pieceE bs.length o.n 32 = 0 by omega) | exact (show pieceE bs.length o.n 32 ≠ 0 by omega)
              have hI := pieceE_iff.1 hE
              refine T.seq ?_
              refine T.seq ?_
              refine T.text [.l, .l, .l, .l, .l, .l, .l, .l, .l, .l, .l] rfl ?_
              refine J.fieldAddr fld52_2 rfl rfl ?_
              refine J.load1 (k := .l) trivial 6 rfl rfl one3 (by first | rfl | with_reducible exact rowN_get0 _ _ _ (by omega) | with_reducible exact rowN_get1 _ _ _ (by omega) | with_reducible exact rowN_get1s _ _ _ _ (by omega) | exact rowN_get1 _ _ _ (by omega) | exact rowN_get1s _ _ _ _ (by omega) | exact rowN_get0 _ _ _ (by omega)) rfl ?_
              refine J.lss rfl rfl rfl (decide_eq_false (by first | omega | rfl | assumption | (simp only [*]; done))) ?_
              refine J.move rfl rfl ?_
              refine J.yes rfl rfl ?_
              refine J.fieldAddr fld52_2 rfl rfl ?_
              refine J.yes rfl rfl ?_
              refine J.load1 (k := .l) trivial 6 rfl rfl one3 (by first | rfl | with_reducible exact rowN_get0 _ _ _ (by omega) | with_reducible exact rowN_get1 _ _ _ (by omega) | with_reducible exact rowN_get1s _ _ _ _ (by omega) | exact rowN_get1 _ _ _ (by omega) | exact rowN_get1s _ _ _ _ (by omega) | exact rowN_get0 _ _ _ (by omega)) rfl ?_
              refine J.yes rfl rfl ?_
              refine J.move rfl rfl ?_
              refine J.yes rfl rfl ?_
              refine J.lenSl Try.underlying22 rfl rfl ?_
              refine J.yes rfl rfl ?_
              refine J.sub' rfl rfl rfl (by exact i64_ok _ (by omega)) ?_
              refine J.yes rfl rfl ?_
              refine J.gtr rfl rfl rfl (decide_eq_false (by first | omega | rfl | assumption | (simp only [*]; done))) ?_
              refine J.pick_f rfl rfl rfl ?_
              refine J.end ?_
              refine X.then ?_
              refine T.cond_false rfl ?_
              refine T.skip ?_
              refine X.then ?_
              refine T.seq ?_
              refine T.text [.l] rfl ?_
              refine J.assign rfl rfl ?_
              refine J.end ?_
              refine X.then ?_
              refine T.block ?_
              obtain ⟨p, hp⟩ := Int.eq_ofNat_of_zero_le (show 0 ≤ o.n by omega)
              refine T.asE 4 (r.ent 5 (rowN .u8 (putB bs p ((bytesN o.x).take 0)))) rfl (by rw [List.take_zero, putB_nil]) ?_
              refine T.loop (ι := Nat) (fun (k : Nat) => k ≤ 32) (fun (k : Nat) => [(0, .slice A0 os.length c0), (3, .pointer (some ⟨g17, 0, none⟩)), (5, .int .i64 (i : Int)), (4, r.val bs.length), (20, .int .i64 (i : Int)), (21, .slice A0 os.length c0), (22, .int .i64 ((os.length : Nat) : Int)), (24, .bool true), (25, .int .i64 (i : Int)), (30, .slice A0 os.length c0), (31, .int .i64 (i : Int)), (6, .pointer (some ⟨g6, 0, none⟩)), (34, .pointer (some ⟨g17, 0, none⟩)), (35, .int .i64 ((bs.length : Nat) : Int)), (7, .int .i64 ((bs.length : Nat) : Int)), (9, .pointer (some ⟨g9, 0, none⟩)), (72, .pointer (some ⟨g17, 0, none⟩)), (81, .bool false), (82, .bool false), (85, r.val bs.length), (86, .int .i64 ((bs.length : Nat) : Int)), (88, .bool false), (89, .bool false), (10, .int .i64 (k : Int))]) (fun (k : Nat) => [(17, ⟨some g17, 99, [i77.val (writeB bs o.n (bytesN o.x)).length]⟩), (18, i77.ent 5 (rowN .u8 (writeB bs o.n (bytesN o.x)))), (6, ⟨some g6, 52, o.cs⟩), (9, ⟨some g9, 67, rowN .u8 (bytesN o.x)⟩), (4, r.ent 5 (rowN .u8 (putB bs p ((bytesN o.x).take k))))]) (fun (k : Nat) => 32 - k) 0 (Nat.zero_le _) (by repeat (first | exact Sub.nil _ | refine Sub.cons (by first | rfl | (rw [dgs_zero]; rfl) | (rw [List.drop_length]; rfl) | (simp; done) | (congr 2; omega) | (congr 3; omega)) ?_)) (by repeat (first | exact Sub.nil _ | refine Sub.cons (by first | rfl | (rw [dgs_zero]; rfl) | (rw [List.drop_length]; rfl) | (simp; done) | (congr 2; omega) | (congr 3; omega)) ?_)) ?_
              rintro k hk
              refine T.seq ?_
              refine T.seq ?_
              refine T.text [.l, .l] rfl ?_
              refine J.move rfl rfl ?_
              refine J.lss rfl rfl rfl rfl ?_
              refine J.end ?_
              refine X.then ?_
              refine T.cond_dec rfl (fun h9 => ?_) (fun h9 => ?_)
              · have hkl : ((bytesN o.x).take k).length = k := by rw [List.length_take]; omega
                have hpl := putB_length (bs := bs) (o := p) (xs := (bytesN o.x).take k) (by omega)
                have hps := putB_step (bs := bs) (xs := (bytesN o.x)) (p := p) (k := k) (by omega) (by omega)
                refine T.skip ?_
                refine X.then ?_
                refine T.seq ?_
                refine T.block ?_
                refine T.draw [] [(0, .g), (1, .g), (2, .q), (3, .g), (4, .g), (5, .g), (6, .g), (7, .q), (8, .g), (9, .l)] (by kernel_rfl) (by kernel_rfl) ?_ rfl (by repeat (first | exact Sub.nil _ | refine Sub.cons (by first | rfl | (rw [dgs_zero]; rfl) | (rw [List.drop_length]; rfl) | (simp; done) | (congr 2; omega) | (congr 3; omega)) ?_))
                refine J.move rfl rfl ?_
                refine J.fieldAddr fld52_2 rfl rfl ?_
                refine J.load1 (k := .q) trivial 6 rfl rfl one3 (by first | rfl | with_reducible exact rowN_get0 _ _ _ (by omega) | with_reducible exact rowN_get1 _ _ _ (by omega) | with_reducible exact rowN_get1s _ _ _ _ (by omega) | exact rowN_get1 _ _ _ (by omega) | exact rowN_get1s _ _ _ _ (by omega) | exact rowN_get0 _ _ _ (by omega)) rfl ?_
                refine J.move rfl rfl ?_
                refine J.add rfl rfl rfl (show _ = ((p + k : Nat) : Int) by rw [i64_ok _ (by omega)]; omega) ?_
                refine J.move rfl rfl ?_
                refine J.indexArr arr67 rfl rfl (by omega) (by omega) (by first | exact Int.toNat_natCast _ | rfl) rfl ?_
                refine J.load1 (k := .q) trivial 9 rfl rfl one5 (by first | rfl | with_reducible exact rowN_get0 _ _ _ (by omega) | with_reducible exact rowN_get1 _ _ _ (by omega) | with_reducible exact rowN_get1s _ _ _ _ (by omega) | exact rowN_get1 _ _ _ (by omega) | exact rowN_get1s _ _ _ _ (by omega) | exact rowN_get0 _ _ _ (by omega)) rfl ?_
                refine J.indexRow sl22 rfl (hr.some (by omega)) rfl (by omega) (by omega) (by first | exact Int.toNat_natCast _ | rfl) rfl ?_
                refine J.store 4 rfl rfl rfl rfl [.int .u8 (((bytesN o.x).getD k 0 : Nat) : Int)] rfl sz5 (by show _ ≤ (rowN .u8 _ ++ r.sp).length; rw [List.length_append, rowN_length]; show _ + 1 ≤ _; omega) (by first | exact rowN_one _ _ | (simp; done) | (intro u hu; simp at hu; subst hu; rfl) | (intro u hu; simp at hu; rcases hu with rfl | rfl <;> rfl)) (by first | decide | exact Nat.zero_lt_succ _ | simp) trivial (rowN .u8 (putB bs p ((bytesN o.x).take (k + 1))) ++ r.sp) (by rw [Nat.mul_one, ← hps]; exact putN _ _ _ _ _ (by omega)) ?_
                refine J.end ?_
                refine X.inBlock (X.then ?_)
                refine T.text [.l, .l, .l] rfl ?_
                refine J.move rfl rfl ?_
                refine J.add rfl rfl rfl (by first | exact add_nat _ 1 (by omega) | exact i64_ok _ (by omega) | exact rfl) ?_
                refine J.assign rfl rfl ?_
                refine J.end ?_
                exact X.round (k + 1) (by omega) (by first | omega | (dsimp only; omega)) (by repeat (first | exact Sub.nil _ | refine Sub.cons (by first | rfl | (rw [dgs_zero]; rfl) | (rw [List.drop_length]; rfl) | (simp; done) | (congr 2; omega) | (congr 3; omega)) ?_)) (by repeat (first | exact Sub.nil _ | refine Sub.cons (by first | rfl | (rw [dgs_zero]; rfl) | (rw [List.drop_length]; rfl) | (simp; done) | (congr 2; omega) | (congr 3; omega)) ?_))
              · have ht : (bytesN o.x).take k = (bytesN o.x) := List.take_of_length_le (by omega)
                rw [ht, writeB_at hE hp]
                refine T.exit ?_
                refine X.then_exit (X.then_exit (X.inBlock_eq (X.inBlock ?_)))
                refine X.as 4 (r.val (writeB bs o.n (bytesN o.x)).length) rfl (by first | rfl | rw [writeB_length]) ?_
                exact X.at ⟨(writeB bs o.n (bytesN o.x)), i77, r⟩ ⟨hm77, by first | exact hr | (rw [writeB_length]; exact hr), by (try dsimp only); first | omega | exact Nat.le_of_eq (writeB_length _ _ _).symm⟩ (by repeat (first | exact Sub.nil _ | refine Sub.cons (by first | rfl | (rw [dgs_zero]; rfl) | (rw [List.drop_length]; rfl) | (simp; done) | (congr 2; omega) | (congr 3; omega)) ?_)) (by repeat (first | exact Sub.nil _ | refine Sub.cons (by first | rfl | (rw [dgs_zero]; rfl) | (rw [List.drop_length]; rfl) | (simp; done) | (congr 2; omega) | (congr 3; omega)) ?_))
            · have hE : pieceE bs.length o.n (((bytesN o.x).length : Nat) : Int) ≠ 0 := by rw [hbl]; first | exact (show pieceE bs.length o.n 32 = 0 by omega) | exact (show pieceE bs.length o.n 32 ≠ 0 by omega)
              rw [writeB_no hE] at hm77 ⊢
              refine T.skip ?_
              refine X.inBlock ?_
              refine X.as 4 (r.val bs.length) rfl (by first | rfl | rw [writeB_length]) ?_
              exact X.at ⟨bs, i77, r⟩ ⟨hm77, by first | exact hr | (rw [writeB_length]; exact hr), by (try dsimp only); first | omega | exact Nat.le_of_eq (writeB_length _ _ _).symm⟩ (by repeat (first | exact Sub.nil _ | refine Sub.cons (by first | rfl | (rw [dgs_zero]; rfl) | (rw [List.drop_length]; rfl) | (simp; done) | (congr 2; omega) | (congr 3; omega)) ?_)) (by repeat (first | exact Sub.nil _ | refine Sub.cons (by first | rfl | (rw [dgs_zero]; rfl) | (rw [List.drop_length]; rfl) | (simp; done) | (congr 2; omega) | (congr 3; omega)) ?_))
          · skip
            refine T.seq ?_
            refine T.text [.l, .l] rfl ?_
            refine J.eql rfl rfl rfl rfl ?_
            refine J.assign rfl rfl ?_
            refine J.end ?_
            refine X.then ?_
            refine T.cond_dec rfl (fun h10 => ?_) (fun h10 => ?_)
            · skip
              refine T.seq ?_
              refine T.text [.l, .l, .l, .l, .l, .l, .l, .l] rfl ?_
              refine J.move rfl rfl ?_
              refine J.fieldAddr fld52_2 rfl rfl ?_
              refine J.load1 (k := .l) trivial 6 rfl rfl one3 (by first | rfl | with_reducible exact rowN_get0 _ _ _ (by omega) | with_reducible exact rowN_get1 _ _ _ (by omega) | with_reducible exact rowN_get1s _ _ _ _ (by omega) | exact rowN_get1 _ _ _ (by omega) | exact rowN_get1s _ _ _ _ (by omega) | exact rowN_get0 _ _ _ (by omega)) rfl ?_
              refine J.fieldAddr fld52_3 rfl rfl ?_
              refine J.load1 (k := .l) trivial 6 rfl rfl one3 (by first | rfl | with_reducible exact rowN_get0 _ _ _ (by omega) | with_reducible exact rowN_get1 _ _ _ (by omega) | with_reducible exact rowN_get1s _ _ _ _ (by omega) | exact rowN_get1 _ _ _ (by omega) | exact rowN_get1s _ _ _ _ (by omega) | exact rowN_get0 _ _ _ (by omega)) rfl ?_
              refine J.conv (by rw [Try.underlying3]; rfl) Try.underlying5 rfl rfl (by first | exact wrap8_nat' _ (by omega) | exact wrap8_nat _ | exact u8_ok _ (by omega) | exact u8_wrap _) ?_
              obtain ⟨u, hu⟩ : ∃ u : Nat, o.m % 256 = (u : Int) := ⟨(o.m % 256).toNat, by omega⟩
              refine J.as 110 (.int .u8 (u : Int)) rfl (by rw [hu]) ?_
              have hul : [u].length = 1 := rfl
              refine J.callMem 17 18 (by decide) (g := g17) (i := i1) (bs := bs) (bs' := writeB bs o.n [u]) rfl rfl rfl rfl fok44 rfl rfl (fun w hw => Me.Store8 w g17 i1 bs hm (hw.memAt 17 18 rfl rfl (by decide)) _ (by omega) _ (by omega)) (fun i111 hm111 => ?_)
              refine J.eql rfl rfl rfl rfl ?_
              refine J.end ?_
              refine X.then ?_
              refine T.cond_dec rfl (fun h11 => ?_) (fun h11 => ?_)
              · have hE : pieceE bs.length o.n (([u].length : Nat) : Int) = 0 := by first | exact (show pieceE bs.length o.n 1 = 0 by omega) | exact (show pieceE bs.length o.n 1 ≠ 0 by omega)
                have hI := pieceE_iff.1 hE
                refine T.seq ?_
                refine T.seq ?_
                refine T.text [.l, .l, .l, .l, .l, .l, .l, .l, .l, .l] rfl ?_
                refine J.fieldAddr fld52_2 rfl rfl ?_
                refine J.load1 (k := .l) trivial 6 rfl rfl one3 (by first | rfl | with_reducible exact rowN_get0 _ _ _ (by omega) | with_reducible exact rowN_get1 _ _ _ (by omega) | with_reducible exact rowN_get1s _ _ _ _ (by omega) | exact rowN_get1 _ _ _ (by omega) | exact rowN_get1s _ _ _ _ (by omega) | exact rowN_get0 _ _ _ (by omega)) rfl ?_
                refine J.lss rfl rfl rfl (decide_eq_false (by first | omega | rfl | assumption | (simp only [*]; done))) ?_
                refine J.move rfl rfl ?_
                refine J.yes rfl rfl ?_
                refine J.fieldAddr fld52_2 rfl rfl ?_
                refine J.yes rfl rfl ?_
                refine J.load1 (k := .l) trivial 6 rfl rfl one3 (by first | rfl | with_reducible exact rowN_get0 _ _ _ (by omega) | with_reducible exact rowN_get1 _ _ _ (by omega) | with_reducible exact rowN_get1s _ _ _ _ (by omega) | exact rowN_get1 _ _ _ (by omega) | exact rowN_get1s _ _ _ _ (by omega) | exact rowN_get0 _ _ _ (by omega)) rfl ?_
                refine J.yes rfl rfl ?_
                refine J.move rfl rfl ?_
                refine J.yes rfl rfl ?_
                refine J.lenSl Try.underlying22 rfl rfl ?_
                refine J.yes rfl rfl ?_
                refine J.geq rfl rfl rfl (decide_eq_false (by first | omega | rfl | assumption | (simp only [*]; done))) ?_
                refine J.pick_f rfl rfl rfl ?_
                refine J.end ?_
                refine X.then ?_
                refine T.cond_false rfl ?_
                refine T.skip ?_
                refine X.then ?_
                refine T.text [.l, .l, .l, .l, .l, .l, .l, .l] rfl ?_
                refine J.move rfl rfl ?_
                refine J.fieldAddr fld52_2 rfl rfl ?_
                refine J.load1 (k := .l) trivial 6 rfl rfl one3 (by first | rfl | with_reducible exact rowN_get0 _ _ _ (by omega) | with_reducible exact rowN_get1 _ _ _ (by omega) | with_reducible exact rowN_get1s _ _ _ _ (by omega) | exact rowN_get1 _ _ _ (by omega) | exact rowN_get1s _ _ _ _ (by omega) | exact rowN_get0 _ _ _ (by omega)) rfl ?_
                refine J.fieldAddr fld52_3 rfl rfl ?_
                refine J.load1 (k := .l) trivial 6 rfl rfl one3 (by first | rfl | with_reducible exact rowN_get0 _ _ _ (by omega) | with_reducible exact rowN_get1 _ _ _ (by omega) | with_reducible exact rowN_get1s _ _ _ _ (by omega) | exact rowN_get1 _ _ _ (by omega) | exact rowN_get1s _ _ _ _ (by omega) | exact rowN_get0 _ _ _ (by omega)) rfl ?_
                refine J.conv (by rw [Try.underlying3]; rfl) Try.underlying5 rfl rfl (by first | exact wrap8_nat' _ (by omega) | exact wrap8_nat _ | exact u8_ok _ (by omega) | exact u8_wrap _) ?_
                refine J.as 128 (.int .u8 (u : Int)) rfl (by rw [hu]) ?_
                obtain ⟨p, hp⟩ := Int.eq_ofNat_of_zero_le (show 0 ≤ o.n by omega)
                refine J.indexRow sl22 rfl (hr.some (by omega)) rfl (by omega) (by omega) (show o.n.toNat = p by omega) rfl ?_
                refine J.store 4 rfl rfl rfl rfl [.int .u8 (u : Int)] rfl sz5 (by show _ ≤ (rowN .u8 bs ++ r.sp).length; rw [List.length_append, rowN_length]; show _ + 1 ≤ _; omega) (by first | exact rowN_one _ _ | (simp; done) | (intro u hu; simp at hu; subst hu; rfl) | (intro u hu; simp at hu; rcases hu with rfl | rfl <;> rfl)) (by first | decide | exact Nat.zero_lt_succ _ | simp) trivial (rowN .u8 (writeB bs o.n [u]) ++ r.sp) (by rw [Nat.mul_one, ← writeB_at (xs := [u]) hE hp, ← set_putB (by omega)]; exact putN _ _ _ _ _ (by omega)) ?_
                refine J.end ?_
                refine X.inBlock ?_
                refine X.as 4 (r.val (writeB bs o.n [u]).length) rfl (by first | rfl | rw [writeB_length]) ?_
                exact X.at ⟨(writeB bs o.n [u]), i111, r⟩ ⟨hm111, by first | exact hr | (rw [writeB_length]; exact hr), by (try dsimp only); first | omega | exact Nat.le_of_eq (writeB_length _ _ _).symm⟩ (by repeat (first | exact Sub.nil _ | refine Sub.cons (by first | rfl | (rw [dgs_zero]; rfl) | (rw [List.drop_length]; rfl) | (simp; done) | (congr 2; omega) | (congr 3; omega)) ?_)) (by repeat (first | exact Sub.nil _ | refine Sub.cons (by first | rfl | (rw [dgs_zero]; rfl) | (rw [List.drop_length]; rfl) | (simp; done) | (congr 2; omega) | (congr 3; omega)) ?_))
              · have hE : pieceE bs.length o.n (([u].length : Nat) : Int) ≠ 0 := by first | exact (show pieceE bs.length o.n 1 = 0 by omega) | exact (show pieceE bs.length o.n 1 ≠ 0 by omega)
                rw [writeB_no hE] at hm111 ⊢
                refine T.skip ?_
                refine X.inBlock ?_
                refine X.as 4 (r.val bs.length) rfl (by first | rfl | rw [writeB_length]) ?_
                exact X.at ⟨bs, i111, r⟩ ⟨hm111, by first | exact hr | (rw [writeB_length]; exact hr), by (try dsimp only); first | omega | exact Nat.le_of_eq (writeB_length _ _ _).symm⟩ (by repeat (first | exact Sub.nil _ | refine Sub.cons (by first | rfl | (rw [dgs_zero]; rfl) | (rw [List.drop_length]; rfl) | (simp; done) | (congr 2; omega) | (congr 3; omega)) ?_)) (by repeat (first | exact Sub.nil _ | refine Sub.cons (by first | rfl | (rw [dgs_zero]; rfl) | (rw [List.drop_length]; rfl) | (simp; done) | (congr 2; omega) | (congr 3; omega)) ?_))
            · skip
              refine T.seq ?_
              refine T.text [.l, .l] rfl ?_
              refine J.eql rfl rfl rfl rfl ?_
              refine J.assign rfl rfl ?_
              refine J.end ?_
              refine X.then ?_
              refine T.cond_dec rfl (fun h12 => ?_) (fun h12 => ?_)
              · skip
                refine T.seq ?_
                refine T.text [.l, .l, .l, .l, .l, .l, .l] rfl ?_
                refine J.move rfl rfl ?_
                refine J.fieldAddr fld52_2 rfl rfl ?_
                refine J.load1 (k := .l) trivial 6 rfl rfl one3 (by first | rfl | with_reducible exact rowN_get0 _ _ _ (by omega) | with_reducible exact rowN_get1 _ _ _ (by omega) | with_reducible exact rowN_get1s _ _ _ _ (by omega) | exact rowN_get1 _ _ _ (by omega) | exact rowN_get1s _ _ _ _ (by omega) | exact rowN_get0 _ _ _ (by omega)) rfl ?_
                refine J.fieldAddr fld52_7 rfl rfl ?_
                refine J.load1 (k := .l) trivial 6 rfl rfl one22 (by first | rfl | with_reducible exact rowN_get0 _ _ _ (by omega) | with_reducible exact rowN_get1 _ _ _ (by omega) | with_reducible exact rowN_get1s _ _ _ _ (by omega) | exact rowN_get1 _ _ _ (by omega) | exact rowN_get1s _ _ _ _ (by omega) | exact rowN_get0 _ _ _ (by omega)) rfl ?_
                refine J.callMem 17 18 (by decide) (g := g17) (i := i1) (bs := bs) (bs' := writeB bs o.n o.bs) rfl rfl rfl rfl fok45 rfl rfl (fun w hw => Me.Write w g17 i1 bs hm (hw.memAt 17 18 rfl rfl (by decide)) _ (by omega) _ o.bs _ (hok.cs.ws hw (off_nil _)) (hw.offIn 17 18 rfl rfl hok.cs) hok.dg (by omega)) (fun i137 hm137 => ?_)
                refine J.eql rfl rfl rfl rfl ?_
                refine J.end ?_
                refine X.then ?_
                refine T.cond_dec rfl (fun h13 => ?_) (fun h13 => ?_)
                · have hE : pieceE bs.length o.n ((o.bs.length : Nat) : Int) = 0 := by omega
                  have hI := pieceE_iff.1 hE
                  refine T.seq ?_
                  refine T.seq ?_
                  refine T.text [.l, .l, .l, .l, .l, .l, .l, .l, .l, .l, .l, .l, .l, .l, .l, .l, .l, .l, .l, .l, .l, .l, .l, .l, .l, .l, .l, .l] rfl ?_
                  refine J.fieldAddr fld52_2 rfl rfl ?_
                  refine J.load1 (k := .l) trivial 6 rfl rfl one3 (by first | rfl | with_reducible exact rowN_get0 _ _ _ (by omega) | with_reducible exact rowN_get1 _ _ _ (by omega) | with_reducible exact rowN_get1s _ _ _ _ (by omega) | exact rowN_get1 _ _ _ (by omega) | exact rowN_get1s _ _ _ _ (by omega) | exact rowN_get0 _ _ _ (by omega)) rfl ?_
                  refine J.lss rfl rfl rfl (decide_eq_false (by first | omega | rfl | assumption | (simp only [*]; done))) ?_
                  refine J.move rfl rfl ?_
                  refine J.yes rfl rfl ?_
                  refine J.fieldAddr fld52_7 rfl rfl ?_
                  refine J.yes rfl rfl ?_
                  refine J.load1 (k := .l) trivial 6 rfl rfl one22 (by first | rfl | with_reducible exact rowN_get0 _ _ _ (by omega) | with_reducible exact rowN_get1 _ _ _ (by omega) | with_reducible exact rowN_get1s _ _ _ _ (by omega) | exact rowN_get1 _ _ _ (by omega) | exact rowN_get1s _ _ _ _ (by omega) | exact rowN_get0 _ _ _ (by omega)) rfl ?_
                  refine J.yes rfl rfl ?_
                  refine J.lenSl Try.underlying22 rfl rfl ?_
                  refine J.yes rfl rfl ?_
                  refine J.gtr rfl rfl rfl rfl ?_
                  refine J.yes rfl rfl ?_
                  refine J.move rfl rfl ?_
                  refine J.split 147 rfl (fun h14 => ?_) (fun h14 => ?_)
                  · skip
                    refine J.yes rfl rfl ?_
                    refine J.fieldAddr fld52_7 rfl rfl ?_
                    refine J.yes rfl rfl ?_
                    refine J.load1 (k := .l) trivial 6 rfl rfl one22 (by first | rfl | with_reducible exact rowN_get0 _ _ _ (by omega) | with_reducible exact rowN_get1 _ _ _ (by omega) | with_reducible exact rowN_get1s _ _ _ _ (by omega) | exact rowN_get1 _ _ _ (by omega) | exact rowN_get1s _ _ _ _ (by omega) | exact rowN_get0 _ _ _ (by omega)) rfl ?_
                    refine J.yes rfl rfl ?_
                    refine J.lenSl Try.underlying22 rfl rfl ?_
                    refine J.yes rfl rfl ?_
                    refine J.move rfl rfl ?_
                    refine J.yes rfl rfl ?_
                    refine J.lenSl Try.underlying22 rfl rfl ?_
                    refine J.yes rfl rfl ?_
                    refine J.gtr rfl rfl rfl (decide_eq_false (by first | omega | rfl | assumption | (simp only [*]; done))) ?_
                    refine J.yes rfl rfl ?_
                    refine J.move rfl rfl ?_
                    refine J.yes rfl rfl ?_
                    refine J.fieldAddr fld52_2 rfl rfl ?_
                    refine J.yes rfl rfl ?_
                    refine J.load1 (k := .l) trivial 6 rfl rfl one3 (by first | rfl | with_reducible exact rowN_get0 _ _ _ (by omega) | with_reducible exact rowN_get1 _ _ _ (by omega) | with_reducible exact rowN_get1s _ _ _ _ (by omega) | exact rowN_get1 _ _ _ (by omega) | exact rowN_get1s _ _ _ _ (by omega) | exact rowN_get0 _ _ _ (by omega)) rfl ?_
                    refine J.yes rfl rfl ?_
                    refine J.move rfl rfl ?_
                    refine J.yes rfl rfl ?_
                    refine J.lenSl Try.underlying22 rfl rfl ?_
                    refine J.yes rfl rfl ?_
                    refine J.fieldAddr fld52_7 rfl rfl ?_
                    refine J.yes rfl rfl ?_
                    refine J.load1 (k := .l) trivial 6 rfl rfl one22 (by first | rfl | with_reducible exact rowN_get0 _ _ _ (by omega) | with_reducible exact rowN_get1 _ _ _ (by omega) | with_reducible exact rowN_get1s _ _ _ _ (by omega) | exact rowN_get1 _ _ _ (by omega) | exact rowN_get1s _ _ _ _ (by omega) | exact rowN_get0 _ _ _ (by omega)) rfl ?_
                    refine J.yes rfl rfl ?_
                    refine J.lenSl Try.underlying22 rfl rfl ?_
                    refine J.yes rfl rfl ?_
                    refine J.sub' rfl rfl rfl (by exact i64_ok _ (by omega)) ?_
                    refine J.yes rfl rfl ?_
                    refine J.gtr rfl rfl rfl (decide_eq_false (by first | omega | rfl | assumption | (simp only [*]; done))) ?_
                    refine J.yes rfl rfl ?_
                    refine J.pick_f rfl rfl rfl ?_
                    refine J.yes rfl rfl ?_
                    refine J.pick_t rfl rfl rfl ?_
                    refine J.pick_f rfl rfl rfl ?_
                    refine J.end ?_
                    refine X.then ?_
                    refine T.cond_false rfl ?_
                    refine T.skip ?_
                    refine X.then ?_
                    refine T.seq ?_
                    refine T.text [.l] rfl ?_
                    refine J.assign rfl rfl ?_
                    refine J.end ?_
                    refine X.then ?_
                    refine T.block ?_
                    obtain ⟨p, hp⟩ := Int.eq_ofNat_of_zero_le (show 0 ≤ o.n by omega)
                    refine T.asE 4 (r.ent 5 (rowN .u8 (putB bs p (o.bs.take 0)))) rfl (by rw [List.take_zero, putB_nil]) ?_
                    refine T.loop (ι := Nat) (fun (k : Nat) => k ≤ o.bs.length) (fun (k : Nat) => [(0, .slice A0 os.length c0), (3, .pointer (some ⟨g17, 0, none⟩)), (5, .int .i64 (i : Int)), (4, r.val bs.length), (20, .int .i64 (i : Int)), (21, .slice A0 os.length c0), (22, .int .i64 ((os.length : Nat) : Int)), (24, .bool true), (25, .int .i64 (i : Int)), (30, .slice A0 os.length c0), (31, .int .i64 (i : Int)), (6, .pointer (some ⟨g6, 0, none⟩)), (34, .pointer (some ⟨g17, 0, none⟩)), (35, .int .i64 ((bs.length : Nat) : Int)), (7, .int .i64 ((bs.length : Nat) : Int)), (132, .pointer (some ⟨g17, 0, none⟩)), (136, .slice o.A o.bs.length o.c), (141, .bool false), (142, .bool false), (144, .slice o.A o.bs.length o.c), (145, .int .i64 ((o.bs.length : Nat) : Int)), (147, .bool true), (149, .slice o.A o.bs.length o.c), (150, .int .i64 ((o.bs.length : Nat) : Int)), (151, r.val bs.length), (152, .int .i64 ((bs.length : Nat) : Int)), (153, .bool false), (154, .bool false), (157, r.val bs.length), (158, .int .i64 ((bs.length : Nat) : Int)), (160, .slice o.A o.bs.length o.c), (161, .int .i64 ((o.bs.length : Nat) : Int)), (163, .bool false), (164, .bool false), (165, .bool false), (166, .bool false), (11, .int .i64 (k : Int))]) (fun (k : Nat) => [(17, ⟨some g17, 99, [i137.val (writeB bs o.n o.bs).length]⟩), (18, i137.ent 5 (rowN .u8 (writeB bs o.n o.bs))), (6, ⟨some g6, 52, o.cs⟩), (4, r.ent 5 (rowN .u8 (putB bs p (o.bs.take k))))]) (fun (k : Nat) => o.bs.length - k) 0 (Nat.zero_le _) (by repeat (first | exact Sub.nil _ | refine Sub.cons (by first | rfl | (rw [dgs_zero]; rfl) | (rw [List.drop_length]; rfl) | (simp; done) | (congr 2; omega) | (congr 3; omega)) ?_)) (by repeat (first | exact Sub.nil _ | refine Sub.cons (by first | rfl | (rw [dgs_zero]; rfl) | (rw [List.drop_length]; rfl) | (simp; done) | (congr 2; omega) | (congr 3; omega)) ?_)) ?_
                    rintro k hk
                    refine T.seq ?_
                    refine T.seq ?_
                    refine T.text [.l, .l, .l, .l, .l] rfl ?_
                    refine J.move rfl rfl ?_
                    refine J.fieldAddr fld52_7 rfl rfl ?_
                    refine J.load1 (k := .l) trivial 6 rfl rfl one22 (by first | rfl | with_reducible exact rowN_get0 _ _ _ (by omega) | with_reducible exact rowN_get1 _ _ _ (by omega) | with_reducible exact rowN_get1s _ _ _ _ (by omega) | exact rowN_get1 _ _ _ (by omega) | exact rowN_get1s _ _ _ _ (by omega) | exact rowN_get0 _ _ _ (by omega)) rfl ?_
                    refine J.lenSl Try.underlying22 rfl rfl ?_
                    refine J.lss rfl rfl rfl rfl ?_
                    refine J.end ?_
                    refine X.then ?_
                    refine T.cond_dec rfl (fun h15 => ?_) (fun h15 => ?_)
                    · have hkl : (o.bs.take k).length = k := by rw [List.length_take]; omega
                      have hpl := putB_length (bs := bs) (o := p) (xs := o.bs.take k) (by omega)
                      have hps := putB_step (bs := bs) (xs := o.bs) (p := p) (k := k) (by omega) (by omega)
                      refine T.skip ?_
                      refine X.then ?_
                      refine T.seq ?_
                      refine T.block ?_
                      refine T.draw [] [(0, .g), (1, .g), (2, .q), (3, .g), (4, .g), (5, .g), (6, .q), (7, .g), (8, .g), (9, .q), (10, .g), (11, .l)] (by kernel_rfl) (by kernel_rfl) ?_ rfl (by repeat (first | exact Sub.nil _ | refine Sub.cons (by first | rfl | (rw [dgs_zero]; rfl) | (rw [List.drop_length]; rfl) | (simp; done) | (congr 2; omega) | (congr 3; omega)) ?_))
                      refine J.move rfl rfl ?_
                      refine J.fieldAddr fld52_2 rfl rfl ?_
                      refine J.load1 (k := .q) trivial 6 rfl rfl one3 (by first | rfl | with_reducible exact rowN_get0 _ _ _ (by omega) | with_reducible exact rowN_get1 _ _ _ (by omega) | with_reducible exact rowN_get1s _ _ _ _ (by omega) | exact rowN_get1 _ _ _ (by omega) | exact rowN_get1s _ _ _ _ (by omega) | exact rowN_get0 _ _ _ (by omega)) rfl ?_
                      refine J.move rfl rfl ?_
                      refine J.add rfl rfl rfl (show _ = ((p + k : Nat) : Int) by rw [i64_ok _ (by omega)]; omega) ?_
                      refine J.fieldAddr fld52_7 rfl rfl ?_
                      refine J.load1 (k := .q) trivial 6 rfl rfl one22 (by first | rfl | with_reducible exact rowN_get0 _ _ _ (by omega) | with_reducible exact rowN_get1 _ _ _ (by omega) | with_reducible exact rowN_get1s _ _ _ _ (by omega) | exact rowN_get1 _ _ _ (by omega) | exact rowN_get1s _ _ _ _ (by omega) | exact rowN_get0 _ _ _ (by omega)) rfl ?_
                      refine J.move rfl rfl ?_
                      refine J.indexSlI sl22 rfl (hok.cs.isSomeN (by omega)) rfl (by omega) (by omega) (by first | exact Int.toNat_natCast _ | rfl) rfl ?_
                      refine J.loadI1 (k := .q) trivial hok.cs (off_nil _) rfl one5 (by first | rfl | with_reducible exact rowN_get1 _ _ _ (by omega) | with_reducible exact rowN_get _ _ _ (by omega) | exact rowN_get1 _ _ _ (by omega)) rfl ?_
                      refine J.indexRow sl22 rfl (hr.some (by omega)) rfl (by omega) (by omega) (by first | exact Int.toNat_natCast _ | rfl) rfl ?_
                      refine J.store 4 rfl rfl rfl rfl [.int .u8 ((o.bs.getD k 0 : Nat) : Int)] rfl sz5 (by show _ ≤ (rowN .u8 _ ++ r.sp).length; rw [List.length_append, rowN_length]; show _ + 1 ≤ _; omega) (by first | exact rowN_one _ _ | (simp; done) | (intro u hu; simp at hu; subst hu; rfl) | (intro u hu; simp at hu; rcases hu with rfl | rfl <;> rfl)) (by first | decide | exact Nat.zero_lt_succ _ | simp) trivial (rowN .u8 (putB bs p (o.bs.take (k + 1))) ++ r.sp) (by rw [Nat.mul_one, ← hps]; exact putN _ _ _ _ _ (by omega)) ?_
                      refine J.end ?_
                      refine X.inBlock (X.then ?_)
                      refine T.text [.l, .l, .l] rfl ?_
                      refine J.move rfl rfl ?_
                      refine J.add rfl rfl rfl (by first | exact add_nat _ 1 (by omega) | exact i64_ok _ (by omega) | exact rfl) ?_
                      refine J.assign rfl rfl ?_
                      refine J.end ?_
                      exact X.round (k + 1) (by omega) (by first | omega | (dsimp only; omega)) (by repeat (first | exact Sub.nil _ | refine Sub.cons (by first | rfl | (rw [dgs_zero]; rfl) | (rw [List.drop_length]; rfl) | (simp; done) | (congr 2; omega) | (congr 3; omega)) ?_)) (by repeat (first | exact Sub.nil _ | refine Sub.cons (by first | rfl | (rw [dgs_zero]; rfl) | (rw [List.drop_length]; rfl) | (simp; done) | (congr 2; omega) | (congr 3; omega)) ?_))
                    · have ht : o.bs.take k = o.bs := List.take_of_length_le (by omega)
                      rw [ht, writeB_at hE hp]
                      refine T.exit ?_
                      refine X.then_exit (X.then_exit (X.inBlock_eq (X.inBlock ?_)))
                      refine X.as 4 (r.val (writeB bs o.n o.bs).length) rfl (by first | rfl | rw [writeB_length]) ?_
                      exact X.at ⟨(writeB bs o.n o.bs), i137, r⟩ ⟨hm137, by first | exact hr | (rw [writeB_length]; exact hr), by (try dsimp only); first | omega | exact Nat.le_of_eq (writeB_length _ _ _).symm⟩ (by repeat (first | exact Sub.nil _ | refine Sub.cons (by first | rfl | (rw [dgs_zero]; rfl) | (rw [List.drop_length]; rfl) | (simp; done) | (congr 2; omega) | (congr 3; omega)) ?_)) (by repeat (first | exact Sub.nil _ | refine Sub.cons (by first | rfl | (rw [dgs_zero]; rfl) | (rw [List.drop_length]; rfl) | (simp; done) | (congr 2; omega) | (congr 3; omega)) ?_))
                  · skip
                    refine J.no rfl rfl rfl rfl ?_
                    refine J.no rfl rfl rfl rfl ?_
                    refine J.no rfl rfl rfl rfl ?_
                    refine J.no rfl rfl rfl rfl ?_
                    refine J.no rfl rfl rfl rfl ?_
                    refine J.no rfl rfl rfl rfl ?_
                    refine J.no rfl rfl rfl rfl ?_
                    refine J.noU rfl rfl rfl ?_
                    refine J.noU rfl rfl rfl ?_
                    refine J.noU rfl rfl rfl ?_
                    refine J.noU rfl rfl rfl ?_
                    refine J.noU rfl rfl rfl ?_
                    refine J.noU rfl rfl rfl ?_
                    refine J.noU rfl rfl rfl ?_
                    refine J.noU rfl rfl rfl ?_
                    refine J.noU rfl rfl rfl ?_
                    refine J.no rfl rfl rfl rfl ?_
                    refine J.yes rfl rfl ?_
                    refine J.pick_f rfl rfl rfl ?_
                    refine J.pick_f rfl rfl rfl ?_
                    refine J.end ?_
                    refine X.then ?_
                    refine T.cond_false rfl ?_
                    refine T.skip ?_
                    refine X.then ?_
                    refine T.seq ?_
                    refine T.text [.l] rfl ?_
                    refine J.assign rfl rfl ?_
                    refine J.end ?_
                    refine X.then ?_
                    refine T.block ?_
                    obtain ⟨p, hp⟩ := Int.eq_ofNat_of_zero_le (show 0 ≤ o.n by omega)
                    refine T.asE 4 (r.ent 5 (rowN .u8 (putB bs p (o.bs.take 0)))) rfl (by rw [List.take_zero, putB_nil]) ?_
                    refine T.loop (ι := Nat) (fun (k : Nat) => k ≤ o.bs.length) (fun (k : Nat) => [(0, .slice A0 os.length c0), (3, .pointer (some ⟨g17, 0, none⟩)), (5, .int .i64 (i : Int)), (4, r.val bs.length), (20, .int .i64 (i : Int)), (21, .slice A0 os.length c0), (22, .int .i64 ((os.length : Nat) : Int)), (24, .bool true), (25, .int .i64 (i : Int)), (30, .slice A0 os.length c0), (31, .int .i64 (i : Int)), (6, .pointer (some ⟨g6, 0, none⟩)), (34, .pointer (some ⟨g17, 0, none⟩)), (35, .int .i64 ((bs.length : Nat) : Int)), (7, .int .i64 ((bs.length : Nat) : Int)), (132, .pointer (some ⟨g17, 0, none⟩)), (136, .slice o.A o.bs.length o.c), (141, .bool false), (142, .bool false), (144, .slice o.A o.bs.length o.c), (145, .int .i64 ((o.bs.length : Nat) : Int)), (147, .bool false), (148, undef), (149, undef), (150, undef), (151, undef), (152, undef), (153, undef), (154, undef), (155, undef), (156, undef), (157, undef), (158, undef), (159, undef), (160, undef), (161, undef), (162, undef), (163, undef), (164, undef), (165, .bool false), (166, .bool false), (11, .int .i64 (k : Int))]) (fun (k : Nat) => [(17, ⟨some g17, 99, [i137.val (writeB bs o.n o.bs).length]⟩), (18, i137.ent 5 (rowN .u8 (writeB bs o.n o.bs))), (6, ⟨some g6, 52, o.cs⟩), (4, r.ent 5 (rowN .u8 (putB bs p (o.bs.take k))))]) (fun (k : Nat) => o.bs.length - k) 0 (Nat.zero_le _) (by repeat (first | exact Sub.nil _ | refine Sub.cons (by first | rfl | (rw [dgs_zero]; rfl) | (rw [List.drop_length]; rfl) | (simp; done) | (congr 2; omega) | (congr 3; omega)) ?_)) (by repeat (first | exact Sub.nil _ | refine Sub.cons (by first | rfl | (rw [dgs_zero]; rfl) | (rw [List.drop_length]; rfl) | (simp; done) | (congr 2; omega) | (congr 3; omega)) ?_)) ?_
                    rintro k hk
                    refine T.seq ?_
                    refine T.seq ?_
                    refine T.text [.l, .l, .l, .l, .l] rfl ?_
                    refine J.move rfl rfl ?_
                    refine J.fieldAddr fld52_7 rfl rfl ?_
                    refine J.load1 (k := .l) trivial 6 rfl rfl one22 (by first | rfl | with_reducible exact rowN_get0 _ _ _ (by omega) | with_reducible exact rowN_get1 _ _ _ (by omega) | with_reducible exact rowN_get1s _ _ _ _ (by omega) | exact rowN_get1 _ _ _ (by omega) | exact rowN_get1s _ _ _ _ (by omega) | exact rowN_get0 _ _ _ (by omega)) rfl ?_
                    refine J.lenSl Try.underlying22 rfl rfl ?_
                    refine J.lss rfl rfl rfl rfl ?_
                    refine J.end ?_
                    refine X.then ?_
                    refine T.cond_dec rfl (fun h16 => ?_) (fun h16 => ?_)
                    · have hkl : (o.bs.take k).length = k := by rw [List.length_take]; omega
                      have hpl := putB_length (bs := bs) (o := p) (xs := o.bs.take k) (by omega)
                      have hps := putB_step (bs := bs) (xs := o.bs) (p := p) (k := k) (by omega) (by omega)
                      refine T.skip ?_
                      refine X.then ?_
                      refine T.seq ?_
                      refine T.block ?_
                      refine T.draw [] [(0, .g), (1, .g), (2, .q), (3, .g), (4, .g), (5, .g), (6, .q), (7, .g), (8, .g), (9, .q), (10, .g), (11, .l)] (by kernel_rfl) (by kernel_rfl) ?_ rfl (by repeat (first | exact Sub.nil _ | refine Sub.cons (by first | rfl | (rw [dgs_zero]; rfl) | (rw [List.drop_length]; rfl) | (simp; done) | (congr 2; omega) | (congr 3; omega)) ?_))
                      refine J.move rfl rfl ?_
                      refine J.fieldAddr fld52_2 rfl rfl ?_
                      refine J.load1 (k := .q) trivial 6 rfl rfl one3 (by first | rfl | with_reducible exact rowN_get0 _ _ _ (by omega) | with_reducible exact rowN_get1 _ _ _ (by omega) | with_reducible exact rowN_get1s _ _ _ _ (by omega) | exact rowN_get1 _ _ _ (by omega) | exact rowN_get1s _ _ _ _ (by omega) | exact rowN_get0 _ _ _ (by omega)) rfl ?_
                      refine J.move rfl rfl ?_
                      refine J.add rfl rfl rfl (show _ = ((p + k : Nat) : Int) by rw [i64_ok _ (by omega)]; omega) ?_
                      refine J.fieldAddr fld52_7 rfl rfl ?_
                      refine J.load1 (k := .q) trivial 6 rfl rfl one22 (by first | rfl | with_reducible exact rowN_get0 _ _ _ (by omega) | with_reducible exact rowN_get1 _ _ _ (by omega) | with_reducible exact rowN_get1s _ _ _ _ (by omega) | exact rowN_get1 _ _ _ (by omega) | exact rowN_get1s _ _ _ _ (by omega) | exact rowN_get0 _ _ _ (by omega)) rfl ?_
                      refine J.move rfl rfl ?_
                      refine J.indexSlI sl22 rfl (hok.cs.isSomeN (by omega)) rfl (by omega) (by omega) (by first | exact Int.toNat_natCast _ | rfl) rfl ?_
                      refine J.loadI1 (k := .q) trivial hok.cs (off_nil _) rfl one5 (by first | rfl | with_reducible exact rowN_get1 _ _ _ (by omega) | with_reducible exact rowN_get _ _ _ (by omega) | exact rowN_get1 _ _ _ (by omega)) rfl ?_
                      refine J.indexRow sl22 rfl (hr.some (by omega)) rfl (by omega) (by omega) (by first | exact Int.toNat_natCast _ | rfl) rfl ?_
                      refine J.store 4 rfl rfl rfl rfl [.int .u8 ((o.bs.getD k 0 : Nat) : Int)] rfl sz5 (by show _ ≤ (rowN .u8 _ ++ r.sp).length; rw [List.length_append, rowN_length]; show _ + 1 ≤ _; omega) (by first | exact rowN_one _ _ | (simp; done) | (intro u hu; simp at hu; subst hu; rfl) | (intro u hu; simp at hu; rcases hu with rfl | rfl <;> rfl)) (by first | decide | exact Nat.zero_lt_succ _ | simp) trivial (rowN .u8 (putB bs p (o.bs.take (k + 1))) ++ r.sp) (by rw [Nat.mul_one, ← hps]; exact putN _ _ _ _ _ (by omega)) ?_
                      refine J.end ?_
                      refine X.inBlock (X.then ?_)
                      refine T.text [.l, .l, .l] rfl ?_
                      refine J.move rfl rfl ?_
                      refine J.add rfl rfl rfl (by first | exact add_nat _ 1 (by omega) | exact i64_ok _ (by omega) | exact rfl) ?_
                      refine J.assign rfl rfl ?_
                      refine J.end ?_
                      exact X.round (k + 1) (by omega) (by first | omega | (dsimp only; omega)) (by repeat (first | exact Sub.nil _ | refine Sub.cons (by first | rfl | (rw [dgs_zero]; rfl) | (rw [List.drop_length]; rfl) | (simp; done) | (congr 2; omega) | (congr 3; omega)) ?_)) (by repeat (first | exact Sub.nil _ | refine Sub.cons (by first | rfl | (rw [dgs_zero]; rfl) | (rw [List.drop_length]; rfl) | (simp; done) | (congr 2; omega) | (congr 3; omega)) ?_))
                    · have ht : o.bs.take k = o.bs := List.take_of_length_le (by omega)
                      rw [ht, writeB_at hE hp]
                      refine T.exit ?_
                      refine X.then_exit (X.then_exit (X.inBlock_eq (X.inBlock ?_)))
                      refine X.as 4 (r.val (writeB bs o.n o.bs).length) rfl (by first | rfl | rw [writeB_length]) ?_
                      exact X.at ⟨(writeB bs o.n o.bs), i137, r⟩ ⟨hm137, by first | exact hr | (rw [writeB_length]; exact hr), by (try dsimp only); first | omega | exact Nat.le_of_eq (writeB_length _ _ _).symm⟩ (by repeat (first | exact Sub.nil _ | refine Sub.cons (by first | rfl | (rw [dgs_zero]; rfl) | (rw [List.drop_length]; rfl) | (simp; done) | (congr 2; omega) | (congr 3; omega)) ?_)) (by repeat (first | exact Sub.nil _ | refine Sub.cons (by first | rfl | (rw [dgs_zero]; rfl) | (rw [List.drop_length]; rfl) | (simp; done) | (congr 2; omega) | (congr 3; omega)) ?_))
                · have hE : pieceE bs.length o.n ((o.bs.length : Nat) : Int) ≠ 0 := by omega
                  rw [writeB_no hE] at hm137 ⊢
                  refine T.skip ?_
                  refine X.inBlock ?_
                  refine X.as 4 (r.val bs.length) rfl (by first | rfl | rw [writeB_length]) ?_
                  exact X.at ⟨bs, i137, r⟩ ⟨hm137, by first | exact hr | (rw [writeB_length]; exact hr), by (try dsimp only); first | omega | exact Nat.le_of_eq (writeB_length _ _ _).symm⟩ (by repeat (first | exact Sub.nil _ | refine Sub.cons (by first | rfl | (rw [dgs_zero]; rfl) | (rw [List.drop_length]; rfl) | (simp; done) | (congr 2; omega) | (congr 3; omega)) ?_)) (by repeat (first | exact Sub.nil _ | refine Sub.cons (by first | rfl | (rw [dgs_zero]; rfl) | (rw [List.drop_length]; rfl) | (simp; done) | (congr 2; omega) | (congr 3; omega)) ?_))
              · skip
                refine T.seq ?_
                refine T.text [.l, .l] rfl ?_
                refine J.eql rfl rfl rfl rfl ?_
                refine J.assign rfl rfl ?_
                refine J.end ?_
                refine X.then ?_
                refine T.cond_dec rfl (fun h17 => ?_) (fun h17 => ?_)
                · skip
                  refine T.seq ?_
                  refine T.text [.l, .l, .l, .l, .l, .l, .l, .l, .l, .l, .l] rfl ?_
                  refine J.move rfl rfl ?_
                  refine J.fieldAddr fld52_3 rfl rfl ?_
                  refine J.load1 (k := .l) trivial 6 rfl rfl one3 (by first | rfl | with_reducible exact rowN_get0 _ _ _ (by omega) | with_reducible exact rowN_get1 _ _ _ (by omega) | with_reducible exact rowN_get1s _ _ _ _ (by omega) | exact rowN_get1 _ _ _ (by omega) | exact rowN_get1s _ _ _ _ (by omega) | exact rowN_get0 _ _ _ (by omega)) rfl ?_
                  refine J.fieldAddr fld52_4 rfl rfl ?_
                  refine J.load1 (k := .l) trivial 6 rfl rfl one3 (by first | rfl | with_reducible exact rowN_get0 _ _ _ (by omega) | with_reducible exact rowN_get1 _ _ _ (by omega) | with_reducible exact rowN_get1s _ _ _ _ (by omega) | exact rowN_get1 _ _ _ (by omega) | exact rowN_get1s _ _ _ _ (by omega) | exact rowN_get0 _ _ _ (by omega)) rfl ?_
                  refine J.callRowE 193 rfl (t := 5) (kd := .u8) fok46 rfl rfl (fun w hw => Me.Read w g17 i1 bs hm (hw.memAt 17 18 rfl rfl (by decide)) _ (by omega) _ (by omega)) (fun zs193 n193 r193 hz193 hr193 => ?_)
                  obtain ⟨hz193, he193⟩ := hz193
                  subst hz193
                  subst he193
                  have hcd := cutB_dg hm.dg o.m o.p
                  have hcl := cutB_le bs o.m o.p
                  refine J.move rfl rfl ?_
                  refine J.extract rfl rfl rfl ?_
                  refine J.extract rfl rfl rfl ?_
                  refine J.assign rfl rfl ?_
                  refine J.assign rfl rfl ?_
                  refine J.end ?_
                  refine X.then ?_
                  refine T.seq ?_
                  refine T.text [.l, .l, .l, .l, .l, .l, .l, .l, .l] rfl ?_
                  refine J.move rfl rfl ?_
                  refine J.fieldAddr fld52_2 rfl rfl ?_
                  refine J.load1 (k := .l) trivial 6 rfl rfl one3 (by first | rfl | with_reducible exact rowN_get0 _ _ _ (by omega) | with_reducible exact rowN_get1 _ _ _ (by omega) | with_reducible exact rowN_get1s _ _ _ _ (by omega) | exact rowN_get1 _ _ _ (by omega) | exact rowN_get1s _ _ _ _ (by omega) | exact rowN_get0 _ _ _ (by omega)) rfl ?_
                  refine J.fieldAddr fld52_3 rfl rfl ?_
                  refine J.load1 (k := .l) trivial 6 rfl rfl one3 (by first | rfl | with_reducible exact rowN_get0 _ _ _ (by omega) | with_reducible exact rowN_get1 _ _ _ (by omega) | with_reducible exact rowN_get1s _ _ _ _ (by omega) | exact rowN_get1 _ _ _ (by omega) | exact rowN_get1s _ _ _ _ (by omega) | exact rowN_get0 _ _ _ (by omega)) rfl ?_
                  refine J.fieldAddr fld52_4 rfl rfl ?_
                  refine J.load1 (k := .l) trivial 6 rfl rfl one3 (by first | rfl | with_reducible exact rowN_get0 _ _ _ (by omega) | with_reducible exact rowN_get1 _ _ _ (by omega) | with_reducible exact rowN_get1s _ _ _ _ (by omega) | exact rowN_get1 _ _ _ (by omega) | exact rowN_get1s _ _ _ _ (by omega) | exact rowN_get0 _ _ _ (by omega)) rfl ?_
                  refine J.callMem 17 18 (by decide) (g := g17) (i := i1) (bs := bs) (bs' := moveB bs o.n o.m o.p) rfl rfl rfl rfl fok47 rfl rfl (fun w hw => Me.Move w g17 i1 bs hm (hw.memAt 17 18 rfl rfl (by decide)) _ (by omega) _ (by omega) _ (by omega)) (fun i203 hm203 => ?_)
                  refine J.eql rfl rfl rfl rfl ?_
                  refine J.end ?_
                  refine X.then ?_
                  refine T.cond_dec rfl (fun h18 => ?_) (fun h18 => ?_)
                  · have hmv := moveE_iff.1 (show moveE bs.length o.n o.m o.p = 0 by omega)
                    have hcn := cutB_len (bs := bs) (a := o.m) (n := o.p) (by omega)
                    have hcz : (((cutB bs o.m o.p).length : Nat) : Int) = o.p := by omega
                    have hE : pieceE bs.length o.n (((cutB bs o.m o.p).length : Nat) : Int) = 0 := by rw [hcz]; omega
                    have hI := pieceE_iff.1 hE
                    rw [moveB_yes (show moveE bs.length o.n o.m o.p = 0 by omega)] at hm203 ⊢
                    refine T.seq ?_
                    refine T.seq ?_
                    refine T.text [.l, .l, .l, .l, .l, .l, .l, .l, .l, .l, .l, .l, .l, .l, .l, .l, .l, .l, .l, .l, .l, .l, .l, .l, .l, .l, .l, .l, .l, .l, .l, .l, .l, .l, .l, .l] rfl ?_
                    refine J.move rfl rfl ?_
                    refine J.neq rfl rfl rfl (decide_eq_false (by first | omega | rfl | assumption | (simp only [*]; done))) ?_
                    refine J.move rfl rfl ?_
                    refine J.yes rfl rfl ?_
                    refine J.fieldAddr fld52_2 rfl rfl ?_
                    refine J.yes rfl rfl ?_
                    refine J.load1 (k := .l) trivial 6 rfl rfl one3 (by first | rfl | with_reducible exact rowN_get0 _ _ _ (by omega) | with_reducible exact rowN_get1 _ _ _ (by omega) | with_reducible exact rowN_get1s _ _ _ _ (by omega) | exact rowN_get1 _ _ _ (by omega) | exact rowN_get1s _ _ _ _ (by omega) | exact rowN_get0 _ _ _ (by omega)) rfl ?_
                    refine J.yes rfl rfl ?_
                    refine J.lss rfl rfl rfl (decide_eq_false (by first | omega | rfl | assumption | (simp only [*]; done))) ?_
                    refine J.pick_f rfl rfl rfl ?_
                    refine J.move rfl rfl ?_
                    refine J.yes rfl rfl ?_
                    refine J.move rfl rfl ?_
                    refine J.yes rfl rfl ?_
                    refine J.lenSl Try.underlying22 rfl rfl ?_
                    refine J.yes rfl rfl ?_
                    refine J.fieldAddr fld52_4 rfl rfl ?_
                    refine J.yes rfl rfl ?_
                    refine J.load1 (k := .l) trivial 6 rfl rfl one3 (by first | rfl | with_reducible exact rowN_get0 _ _ _ (by omega) | with_reducible exact rowN_get1 _ _ _ (by omega) | with_reducible exact rowN_get1s _ _ _ _ (by omega) | exact rowN_get1 _ _ _ (by omega) | exact rowN_get1s _ _ _ _ (by omega) | exact rowN_get0 _ _ _ (by omega)) rfl ?_
                    refine J.yes rfl rfl ?_
                    refine J.neq rfl rfl rfl (decide_eq_false (by first | omega | rfl | assumption | (simp only [*]; done))) ?_
                    refine J.pick_f rfl rfl rfl ?_
                    refine J.move rfl rfl ?_
                    refine J.yes rfl rfl ?_
                    refine J.move rfl rfl ?_
                    refine J.yes rfl rfl ?_
                    refine J.lenSl Try.underlying22 rfl rfl ?_
                    refine J.yes rfl rfl ?_
                    refine J.gtr rfl rfl rfl rfl ?_
                    refine J.yes rfl rfl ?_
                    refine J.move rfl rfl ?_
                    refine J.split 223 rfl (fun h19 => ?_) (fun h19 => ?_)
                    · skip
                      refine J.yes rfl rfl ?_
                      refine J.move rfl rfl ?_
                      refine J.yes rfl rfl ?_
                      refine J.lenSl Try.underlying22 rfl rfl ?_
                      refine J.yes rfl rfl ?_
                      refine J.move rfl rfl ?_
                      refine J.yes rfl rfl ?_
                      refine J.lenSl Try.underlying22 rfl rfl ?_
                      refine J.yes rfl rfl ?_
                      refine J.gtr rfl rfl rfl (decide_eq_false (by first | omega | rfl | assumption | (simp only [*]; done))) ?_
                      refine J.yes rfl rfl ?_
                      refine J.move rfl rfl ?_
                      refine J.yes rfl rfl ?_
                      refine J.fieldAddr fld52_2 rfl rfl ?_
                      refine J.yes rfl rfl ?_
                      refine J.load1 (k := .l) trivial 6 rfl rfl one3 (by first | rfl | with_reducible exact rowN_get0 _ _ _ (by omega) | with_reducible exact rowN_get1 _ _ _ (by omega) | with_reducible exact rowN_get1s _ _ _ _ (by omega) | exact rowN_get1 _ _ _ (by omega) | exact rowN_get1s _ _ _ _ (by omega) | exact rowN_get0 _ _ _ (by omega)) rfl ?_
                      refine J.yes rfl rfl ?_
                      refine J.move rfl rfl ?_
                      refine J.yes rfl rfl ?_
                      refine J.lenSl Try.underlying22 rfl rfl ?_
                      refine J.yes rfl rfl ?_
                      refine J.move rfl rfl ?_
                      refine J.yes rfl rfl ?_
                      refine J.lenSl Try.underlying22 rfl rfl ?_
                      refine J.yes rfl rfl ?_
                      refine J.sub' rfl rfl rfl (by exact i64_ok _ (by omega)) ?_
                      refine J.yes rfl rfl ?_
                      refine J.gtr rfl rfl rfl (decide_eq_false (by first | omega | rfl | assumption | (simp only [*]; done))) ?_
                      refine J.yes rfl rfl ?_
                      refine J.pick_f rfl rfl rfl ?_
                      refine J.yes rfl rfl ?_
                      refine J.pick_t rfl rfl rfl ?_
                      refine J.pick_f rfl rfl rfl ?_
                      refine J.end ?_
                      refine X.then ?_
                      refine T.cond_false rfl ?_
                      refine T.skip ?_
                      refine X.then ?_
                      refine T.seq ?_
                      refine T.text [.l] rfl ?_
                      refine J.assign rfl rfl ?_
                      refine J.end ?_
                      refine X.then ?_
                      refine T.block ?_
                      obtain ⟨p, hp⟩ := Int.eq_ofNat_of_zero_le (show 0 ≤ o.n by omega)
                      refine T.asE 4 (r.ent 5 (rowN .u8 (putB bs p ((cutB bs o.m o.p).take 0)))) rfl (by rw [List.take_zero, putB_nil]) ?_
                      refine T.loop (ι := Nat) (fun (k : Nat) => k ≤ (cutB bs o.m o.p).length) (fun (k : Nat) => [(0, .slice A0 os.length c0), (3, .pointer (some ⟨g17, 0, none⟩)), (5, .int .i64 (i : Int)), (4, r.val bs.length), (20, .int .i64 (i : Int)), (21, .slice A0 os.length c0), (22, .int .i64 ((os.length : Nat) : Int)), (24, .bool true), (25, .int .i64 (i : Int)), (30, .slice A0 os.length c0), (31, .int .i64 (i : Int)), (6, .pointer (some ⟨g6, 0, none⟩)), (34, .pointer (some ⟨g17, 0, none⟩)), (35, .int .i64 ((bs.length : Nat) : Int)), (7, .int .i64 ((bs.length : Nat) : Int)), (188, .pointer (some ⟨g17, 0, none⟩)), (194, r193.val (cutB bs o.m o.p).length), (195, .int .i64 (pieceE bs.length o.m o.p : Int)), (12, r193.val (cutB bs o.m o.p).length), (13, .int .i64 (pieceE bs.length o.m o.p : Int)), (196, .pointer (some ⟨g17, 0, none⟩)), (205, .int .i64 (pieceE bs.length o.m o.p : Int)), (206, .bool false), (207, .bool false), (210, .bool false), (211, .bool false), (212, .bool false), (213, r193.val (cutB bs o.m o.p).length), (214, .int .i64 (((cutB bs o.m o.p).length : Nat) : Int)), (217, .bool false), (218, .bool false), (219, .bool false), (220, r193.val (cutB bs o.m o.p).length), (221, .int .i64 (((cutB bs o.m o.p).length : Nat) : Int)), (223, .bool true), (224, r193.val (cutB bs o.m o.p).length), (225, .int .i64 (((cutB bs o.m o.p).length : Nat) : Int)), (226, r.val bs.length), (227, .int .i64 ((bs.length : Nat) : Int)), (228, .bool false), (229, .bool false), (232, r.val bs.length), (233, .int .i64 ((bs.length : Nat) : Int)), (234, r193.val (cutB bs o.m o.p).length), (235, .int .i64 (((cutB bs o.m o.p).length : Nat) : Int)), (237, .bool false), (238, .bool false), (239, .bool false), (240, .bool false), (14, .int .i64 (k : Int))]) (fun (k : Nat) => [(17, ⟨some g17, 99, [i203.val (writeB bs o.n (cutB bs o.m o.p)).length]⟩), (18, i203.ent 5 (rowN .u8 (writeB bs o.n (cutB bs o.m o.p)))), (6, ⟨some g6, 52, o.cs⟩), (193, r193.ent 5 (rowN .u8 (cutB bs o.m o.p))), (4, r.ent 5 (rowN .u8 (putB bs p ((cutB bs o.m o.p).take k))))]) (fun (k : Nat) => (cutB bs o.m o.p).length - k) 0 (Nat.zero_le _) (by repeat (first | exact Sub.nil _ | refine Sub.cons (by first | rfl | (rw [dgs_zero]; rfl) | (rw [List.drop_length]; rfl) | (simp; done) | (congr 2; omega) | (congr 3; omega)) ?_)) (by repeat (first | exact Sub.nil _ | refine Sub.cons (by first | rfl | (rw [dgs_zero]; rfl) | (rw [List.drop_length]; rfl) | (simp; done) | (congr 2; omega) | (congr 3; omega)) ?_)) ?_
                      rintro k hk
                      refine T.seq ?_
                      refine T.seq ?_
                      refine T.text [.l, .l, .l, .l] rfl ?_
                      refine J.move rfl rfl ?_
                      refine J.move rfl rfl ?_
                      refine J.lenSl Try.underlying22 rfl rfl ?_
                      refine J.lss rfl rfl rfl rfl ?_
                      refine J.end ?_
                      refine X.then ?_
                      refine T.cond_dec rfl (fun h20 => ?_) (fun h20 => ?_)
                      · have hkl : ((cutB bs o.m o.p).take k).length = k := by rw [List.length_take]; omega
                        have hpl := putB_length (bs := bs) (o := p) (xs := (cutB bs o.m o.p).take k) (by omega)
                        have hps := putB_step (bs := bs) (xs := (cutB bs o.m o.p)) (p := p) (k := k) (by omega) (by omega)
                        refine T.skip ?_
                        refine X.then ?_
                        refine T.seq ?_
                        refine T.block ?_
                        refine T.draw [] [(0, .g), (1, .g), (2, .q), (3, .g), (4, .g), (5, .g), (6, .g), (7, .g), (8, .q), (9, .g), (10, .l)] (by kernel_rfl) (by kernel_rfl) ?_ rfl (by repeat (first | exact Sub.nil _ | refine Sub.cons (by first | rfl | (rw [dgs_zero]; rfl) | (rw [List.drop_length]; rfl) | (simp; done) | (congr 2; omega) | (congr 3; omega)) ?_))
                        refine J.move rfl rfl ?_
                        refine J.fieldAddr fld52_2 rfl rfl ?_
                        refine J.load1 (k := .q) trivial 6 rfl rfl one3 (by first | rfl | with_reducible exact rowN_get0 _ _ _ (by omega) | with_reducible exact rowN_get1 _ _ _ (by omega) | with_reducible exact rowN_get1s _ _ _ _ (by omega) | exact rowN_get1 _ _ _ (by omega) | exact rowN_get1s _ _ _ _ (by omega) | exact rowN_get0 _ _ _ (by omega)) rfl ?_
                        refine J.move rfl rfl ?_
                        refine J.add rfl rfl rfl (show _ = ((p + k : Nat) : Int) by rw [i64_ok _ (by omega)]; omega) ?_
                        refine J.move rfl rfl ?_
                        refine J.move rfl rfl ?_
                        refine J.indexRow sl22 rfl (hr193.some (by omega)) rfl (by omega) (by omega) (by first | exact Int.toNat_natCast _ | rfl) rfl ?_
                        refine J.load1 (k := .q) trivial 193 rfl rfl one5 (by first | rfl | with_reducible exact rowN_get0 _ _ _ (by omega) | with_reducible exact rowN_get1 _ _ _ (by omega) | with_reducible exact rowN_get1s _ _ _ _ (by omega) | exact rowN_get1 _ _ _ (by omega) | exact rowN_get1s _ _ _ _ (by omega) | exact rowN_get0 _ _ _ (by omega)) rfl ?_
                        refine J.indexRow sl22 rfl (hr.some (by omega)) rfl (by omega) (by omega) (by first | exact Int.toNat_natCast _ | rfl) rfl ?_
                        refine J.store 4 rfl rfl rfl rfl [.int .u8 (((cutB bs o.m o.p).getD k 0 : Nat) : Int)] rfl sz5 (by show _ ≤ (rowN .u8 _ ++ r.sp).length; rw [List.length_append, rowN_length]; show _ + 1 ≤ _; omega) (by first | exact rowN_one _ _ | (simp; done) | (intro u hu; simp at hu; subst hu; rfl) | (intro u hu; simp at hu; rcases hu with rfl | rfl <;> rfl)) (by first | decide | exact Nat.zero_lt_succ _ | simp) trivial (rowN .u8 (putB bs p ((cutB bs o.m o.p).take (k + 1))) ++ r.sp) (by rw [Nat.mul_one, ← hps]; exact putN _ _ _ _ _ (by omega)) ?_
                        refine J.end ?_
                        refine X.inBlock (X.then ?_)
                        refine T.text [.l, .l, .l] rfl ?_
                        refine J.move rfl rfl ?_
                        refine J.add rfl rfl rfl (by first | exact add_nat _ 1 (by omega) | exact i64_ok _ (by omega) | exact rfl) ?_
                        refine J.assign rfl rfl ?_
                        refine J.end ?_
                        exact X.round (k + 1) (by omega) (by first | omega | (dsimp only; omega)) (by repeat (first | exact Sub.nil _ | refine Sub.cons (by first | rfl | (rw [dgs_zero]; rfl) | (rw [List.drop_length]; rfl) | (simp; done) | (congr 2; omega) | (congr 3; omega)) ?_)) (by repeat (first | exact Sub.nil _ | refine Sub.cons (by first | rfl | (rw [dgs_zero]; rfl) | (rw [List.drop_length]; rfl) | (simp; done) | (congr 2; omega) | (congr 3; omega)) ?_))
                      · have ht : (cutB bs o.m o.p).take k = (cutB bs o.m o.p) := List.take_of_length_le (by omega)
                        rw [ht, writeB_at hE hp]
                        refine T.exit ?_
                        refine X.then_exit (X.then_exit (X.inBlock_eq (X.inBlock ?_)))
                        refine X.as 4 (r.val (writeB bs o.n (cutB bs o.m o.p)).length) rfl (by first | rfl | rw [writeB_length]) ?_
                        exact X.at ⟨(writeB bs o.n (cutB bs o.m o.p)), i203, r⟩ ⟨hm203, by first | exact hr | (rw [writeB_length]; exact hr), by (try dsimp only); first | omega | exact Nat.le_of_eq (writeB_length _ _ _).symm⟩ (by repeat (first | exact Sub.nil _ | refine Sub.cons (by first | rfl | (rw [dgs_zero]; rfl) | (rw [List.drop_length]; rfl) | (simp; done) | (congr 2; omega) | (congr 3; omega)) ?_)) (by repeat (first | exact Sub.nil _ | refine Sub.cons (by first | rfl | (rw [dgs_zero]; rfl) | (rw [List.drop_length]; rfl) | (simp; done) | (congr 2; omega) | (congr 3; omega)) ?_))
                    · skip
                      refine J.no rfl rfl rfl rfl ?_
                      refine J.no rfl rfl rfl rfl ?_
                      refine J.no rfl rfl rfl rfl ?_
                      refine J.no rfl rfl rfl rfl ?_
                      refine J.no rfl rfl rfl rfl ?_
                      refine J.no rfl rfl rfl rfl ?_
                      refine J.noU rfl rfl rfl ?_
                      refine J.noU rfl rfl rfl ?_
                      refine J.noU rfl rfl rfl ?_
                      refine J.noU rfl rfl rfl ?_
                      refine J.noU rfl rfl rfl ?_
                      refine J.noU rfl rfl rfl ?_
                      refine J.noU rfl rfl rfl ?_
                      refine J.noU rfl rfl rfl ?_
                      refine J.no rfl rfl rfl rfl ?_
                      refine J.yes rfl rfl ?_
                      refine J.pick_f rfl rfl rfl ?_
                      refine J.pick_f rfl rfl rfl ?_
                      refine J.end ?_
                      refine X.then ?_
                      refine T.cond_false rfl ?_
                      refine T.skip ?_
                      refine X.then ?_
                      refine T.seq ?_
                      refine T.text [.l] rfl ?_
                      refine J.assign rfl rfl ?_
                      refine J.end ?_
                      refine X.then ?_
                      refine T.block ?_
                      obtain ⟨p, hp⟩ := Int.eq_ofNat_of_zero_le (show 0 ≤ o.n by omega)
                      refine T.asE 4 (r.ent 5 (rowN .u8 (putB bs p ((cutB bs o.m o.p).take 0)))) rfl (by rw [List.take_zero, putB_nil]) ?_
                      refine T.loop (ι := Nat) (fun (k : Nat) => k ≤ (cutB bs o.m o.p).length) (fun (k : Nat) => [(0, .slice A0 os.length c0), (3, .pointer (some ⟨g17, 0, none⟩)), (5, .int .i64 (i : Int)), (4, r.val bs.length), (20, .int .i64 (i : Int)), (21, .slice A0 os.length c0), (22, .int .i64 ((os.length : Nat) : Int)), (24, .bool true), (25, .int .i64 (i : Int)), (30, .slice A0 os.length c0), (31, .int .i64 (i : Int)), (6, .pointer (some ⟨g6, 0, none⟩)), (34, .pointer (some ⟨g17, 0, none⟩)), (35, .int .i64 ((bs.length : Nat) : Int)), (7, .int .i64 ((bs.length : Nat) : Int)), (188, .pointer (some ⟨g17, 0, none⟩)), (194, r193.val (cutB bs o.m o.p).length), (195, .int .i64 (pieceE bs.length o.m o.p : Int)), (12, r193.val (cutB bs o.m o.p).length), (13, .int .i64 (pieceE bs.length o.m o.p : Int)), (196, .pointer (some ⟨g17, 0, none⟩)), (205, .int .i64 (pieceE bs.length o.m o.p : Int)), (206, .bool false), (207, .bool false), (210, .bool false), (211, .bool false), (212, .bool false), (213, r193.val (cutB bs o.m o.p).length), (214, .int .i64 (((cutB bs o.m o.p).length : Nat) : Int)), (217, .bool false), (218, .bool false), (219, .bool false), (220, r193.val (cutB bs o.m o.p).length), (221, .int .i64 (((cutB bs o.m o.p).length : Nat) : Int)), (223, .bool false), (224, undef), (225, undef), (226, undef), (227, undef), (228, undef), (229, undef), (230, undef), (231, undef), (232, undef), (233, undef), (234, undef), (235, undef), (236, undef), (237, undef), (238, undef), (239, .bool false), (240, .bool false), (14, .int .i64 (k : Int))]) (fun (k : Nat) => [(17, ⟨some g17, 99, [i203.val (writeB bs o.n (cutB bs o.m o.p)).length]⟩), (18, i203.ent 5 (rowN .u8 (writeB bs o.n (cutB bs o.m o.p)))), (6, ⟨some g6, 52, o.cs⟩), (193, r193.ent 5 (rowN .u8 (cutB bs o.m o.p))), (4, r.ent 5 (rowN .u8 (putB bs p ((cutB bs o.m o.p).take k))))]) (fun (k : Nat) => (cutB bs o.m o.p).length - k) 0 (Nat.zero_le _) (by repeat (first | exact Sub.nil _ | refine Sub.cons (by first | rfl | (rw [dgs_zero]; rfl) | (rw [List.drop_length]; rfl) | (simp; done) | (congr 2; omega) | (congr 3; omega)) ?_)) (by repeat (first | exact Sub.nil _ | refine Sub.cons (by first | rfl | (rw [dgs_zero]; rfl) | (rw [List.drop_length]; rfl) | (simp; done) | (congr 2; omega) | (congr 3; omega)) ?_)) ?_
                      rintro k hk
                      refine T.seq ?_
                      refine T.seq ?_
                      refine T.text [.l, .l, .l, .l] rfl ?_
                      refine J.move rfl rfl ?_
                      refine J.move rfl rfl ?_
                      refine J.lenSl Try.underlying22 rfl rfl ?_
                      refine J.lss rfl rfl rfl rfl ?_
                      refine J.end ?_
                      refine X.then ?_
                      refine T.cond_dec rfl (fun h21 => ?_) (fun h21 => ?_)
                      · have hkl : ((cutB bs o.m o.p).take k).length = k := by rw [List.length_take]; omega
                        have hpl := putB_length (bs := bs) (o := p) (xs := (cutB bs o.m o.p).take k) (by omega)
                        have hps := putB_step (bs := bs) (xs := (cutB bs o.m o.p)) (p := p) (k := k) (by omega) (by omega)
                        refine T.skip ?_
                        refine X.then ?_
                        refine T.seq ?_
                        refine T.block ?_
                        refine T.draw [] [(0, .g), (1, .g), (2, .q), (3, .g), (4, .g), (5, .g), (6, .g), (7, .g), (8, .q), (9, .g), (10, .l)] (by kernel_rfl) (by kernel_rfl) ?_ rfl (by repeat (first | exact Sub.nil _ | refine Sub.cons (by first | rfl | (rw [dgs_zero]; rfl) | (rw [List.drop_length]; rfl) | (simp; done) | (congr 2; omega) | (congr 3; omega)) ?_))
                        refine J.move rfl rfl ?_
                        refine J.fieldAddr fld52_2 rfl rfl ?_
                        refine J.load1 (k := .q) trivial 6 rfl rfl one3 (by first | rfl | with_reducible exact rowN_get0 _ _ _ (by omega) | with_reducible exact rowN_get1 _ _ _ (by omega) | with_reducible exact rowN_get1s _ _ _ _ (by omega) | exact rowN_get1 _ _ _ (by omega) | exact rowN_get1s _ _ _ _ (by omega) | exact rowN_get0 _ _ _ (by omega)) rfl ?_
                        refine J.move rfl rfl ?_
                        refine J.add rfl rfl rfl (show _ = ((p + k : Nat) : Int) by rw [i64_ok _ (by omega)]; omega) ?_
                        refine J.move rfl rfl ?_
                        refine J.move rfl rfl ?_
                        refine J.indexRow sl22 rfl (hr193.some (by omega)) rfl (by omega) (by omega) (by first | exact Int.toNat_natCast _ | rfl) rfl ?_
                        refine J.load1 (k := .q) trivial 193 rfl rfl one5 (by first | rfl | with_reducible exact rowN_get0 _ _ _ (by omega) | with_reducible exact rowN_get1 _ _ _ (by omega) | with_reducible exact rowN_get1s _ _ _ _ (by omega) | exact rowN_get1 _ _ _ (by omega) | exact rowN_get1s _ _ _ _ (by omega) | exact rowN_get0 _ _ _ (by omega)) rfl ?_
                        refine J.indexRow sl22 rfl (hr.some (by omega)) rfl (by omega) (by omega) (by first | exact Int.toNat_natCast _ | rfl) rfl ?_
                        refine J.store 4 rfl rfl rfl rfl [.int .u8 (((cutB bs o.m o.p).getD k 0 : Nat) : Int)] rfl sz5 (by show _ ≤ (rowN .u8 _ ++ r.sp).length; rw [List.length_append, rowN_length]; show _ + 1 ≤ _; omega) (by first | exact rowN_one _ _ | (simp; done) | (intro u hu; simp at hu; subst hu; rfl) | (intro u hu; simp at hu; rcases hu with rfl | rfl <;> rfl)) (by first | decide | exact Nat.zero_lt_succ _ | simp) trivial (rowN .u8 (putB bs p ((cutB bs o.m o.p).take (k + 1))) ++ r.sp) (by rw [Nat.mul_one, ← hps]; exact putN _ _ _ _ _ (by omega)) ?_
                        refine J.end ?_
                        refine X.inBlock (X.then ?_)
                        refine T.text [.l, .l, .l] rfl ?_
                        refine J.move rfl rfl ?_
                        refine J.add rfl rfl rfl (by first | exact add_nat _ 1 (by omega) | exact i64_ok _ (by omega) | exact rfl) ?_
                        refine J.assign rfl rfl ?_
                        refine J.end ?_
                        exact X.round (k + 1) (by omega) (by first | omega | (dsimp only; omega)) (by repeat (first | exact Sub.nil _ | refine Sub.cons (by first | rfl | (rw [dgs_zero]; rfl) | (rw [List.drop_length]; rfl) | (simp; done) | (congr 2; omega) | (congr 3; omega)) ?_)) (by repeat (first | exact Sub.nil _ | refine Sub.cons (by first | rfl | (rw [dgs_zero]; rfl) | (rw [List.drop_length]; rfl) | (simp; done) | (congr 2; omega) | (congr 3; omega)) ?_))
                      · have ht : (cutB bs o.m o.p).take k = (cutB bs o.m o.p) := List.take_of_length_le (by omega)
                        rw [ht, writeB_at hE hp]
                        refine T.exit ?_
                        refine X.then_exit (X.then_exit (X.inBlock_eq (X.inBlock ?_)))
                        refine X.as 4 (r.val (writeB bs o.n (cutB bs o.m o.p)).length) rfl (by first | rfl | rw [writeB_length]) ?_
                        exact X.at ⟨(writeB bs o.n (cutB bs o.m o.p)), i203, r⟩ ⟨hm203, by first | exact hr | (rw [writeB_length]; exact hr), by (try dsimp only); first | omega | exact Nat.le_of_eq (writeB_length _ _ _).symm⟩ (by repeat (first | exact Sub.nil _ | refine Sub.cons (by first | rfl | (rw [dgs_zero]; rfl) | (rw [List.drop_length]; rfl) | (simp; done) | (congr 2; omega) | (congr 3; omega)) ?_)) (by repeat (first | exact Sub.nil _ | refine Sub.cons (by first | rfl | (rw [dgs_zero]; rfl) | (rw [List.drop_length]; rfl) | (simp; done) | (congr 2; omega) | (congr 3; omega)) ?_))
                  · rw [moveB_no (show moveE bs.length o.n o.m o.p ≠ 0 by omega)] at hm203 ⊢
                    refine T.skip ?_
                    refine X.inBlock ?_
                    refine X.as 4 (r.val bs.length) rfl (by first | rfl | rw [writeB_length]) ?_
                    exact X.at ⟨bs, i203, r⟩ ⟨hm203, by first | exact hr | (rw [writeB_length]; exact hr), by (try dsimp only); first | omega | exact Nat.le_of_eq (writeB_length _ _ _).symm⟩ (by repeat (first | exact Sub.nil _ | refine Sub.cons (by first | rfl | (rw [dgs_zero]; rfl) | (rw [List.drop_length]; rfl) | (simp; done) | (congr 2; omega) | (congr 3; omega)) ?_)) (by repeat (first | exact Sub.nil _ | refine Sub.cons (by first | rfl | (rw [dgs_zero]; rfl) | (rw [List.drop_length]; rfl) | (simp; done) | (congr 2; omega) | (congr 3; omega)) ?_))
                · skip
                  refine T.skip ?_
                  refine X.inBlock ?_
                  refine X.as 4 (r.val bs.length) rfl (by first | rfl | rw [writeB_length]) ?_
                  exact X.at ⟨bs, i1, r⟩ ⟨hm, by first | exact hr | (rw [writeB_length]; exact hr), by (try dsimp only); first | omega | exact Nat.le_of_eq (writeB_length _ _ _).symm⟩ (by repeat (first | exact Sub.nil _ | refine Sub.cons (by first | rfl | (rw [dgs_zero]; rfl) | (rw [List.drop_length]; rfl) | (simp; done) | (congr 2; omega) | (congr 3; omega)) ?_)) (by repeat (first | exact Sub.nil _ | refine Sub.cons (by first | rfl | (rw [dgs_zero]; rfl) | (rw [List.drop_length]; rfl) | (simp; done) | (congr 2; omega) | (congr 3; omega)) ?_))
      · rintro ⟨bs2, i2, r2⟩ ⟨hm2, hr2, hge2⟩
        try dsimp only at *
        have hle2 := hm2.le
        refine T.seq ?_
        refine T.text [.l, .l, .l, .l, .l, .l, .l, .l, .l] rfl ?_
        refine J.move rfl rfl ?_
        refine J.move rfl rfl ?_
        refine J.lenSl Try.underlying22 rfl rfl ?_
        refine J.callRowE 261 rfl (t := 5) (kd := .u8) fok46 rfl rfl (fun w hw => Me.Read w g17 i2 bs2 hm2 (hw.memAt 17 18 rfl rfl (by decide)) _ (by omega) _ (by omega)) (fun zs261 n261 r261 hz261 hr261 => ?_)
        obtain ⟨hz261, he261⟩ := hz261
        rw [cutB_all] at hz261
        rw [show pieceE bs2.length 0 (bs2.length : Nat) = 0 from pieceE_iff.2 (by omega)] at he261
        have hz261 := hz261.symm
        subst hz261
        subst he261
        have hd2 := hm2.dg
        refine J.move rfl rfl ?_
        refine J.extract rfl rfl rfl ?_
        refine J.extract rfl rfl rfl ?_
        refine J.as 263 (.int .i64 0) rfl (by rfl) ?_
        refine J.assign rfl rfl ?_
        refine J.assign rfl rfl ?_
        refine J.end ?_
        refine X.then ?_
        refine T.seq ?_
        refine T.text [.l, .l, .l, .l, .l, .l, .l, .l, .l, .l, .l, .l, .l, .l, .l, .l, .l, .l, .l, .l, .l, .l] rfl ?_
        refine J.move rfl rfl ?_
        refine J.call0 (k := .l) trivial fok37 rfl rfl (fun w hw => Me.Len w g17 i2 bs2 hm2 (hw.memAt 17 18 rfl rfl (by decide))) ?_
        refine J.move rfl rfl ?_
        refine J.lenSl Try.underlying22 rfl rfl ?_
        refine J.neq rfl rfl rfl (decide_eq_false (by first | omega | rfl | assumption | (simp only [*]; done))) ?_
        refine J.move rfl rfl ?_
        refine J.yes rfl rfl ?_
        refine J.move rfl rfl ?_
        refine J.yes rfl rfl ?_
        refine J.move rfl rfl ?_
        refine J.yes rfl rfl ?_
        refine J.call0 (k := .l) trivial fok37 rfl rfl (fun w hw => Me.Len w g17 i2 bs2 hm2 (hw.memAt 17 18 rfl rfl (by decide))) ?_
        refine J.yes rfl rfl ?_
        refine J.gtr rfl rfl rfl (decide_eq_false (by first | omega | rfl | assumption | (simp only [*]; done))) ?_
        refine J.pick_f rfl rfl rfl ?_
        refine J.move rfl rfl ?_
        refine J.yes rfl rfl ?_
        refine J.move rfl rfl ?_
        refine J.yes rfl rfl ?_
        refine J.neq rfl rfl rfl (decide_eq_false (by first | omega | rfl | assumption | (simp only [*]; done))) ?_
        refine J.pick_f rfl rfl rfl ?_
        refine J.move rfl rfl ?_
        refine J.yes rfl rfl ?_
        refine J.move rfl rfl ?_
        refine J.yes rfl rfl ?_
        refine J.convBS (k := .l) trivial Try.underlying22 Try.underlying5 Try.underlying9 rfl (_) (by first | rfl | omega) (fun w hw => (hw.rowCs (k := 261) rfl)) rfl ?_
        refine J.yes rfl rfl ?_
        refine J.move rfl rfl ?_
        refine J.yes rfl rfl ?_
        refine J.convBS (k := .l) trivial Try.underlying22 Try.underlying5 Try.underlying9 rfl (_) (by first | rfl | omega) (fun w hw => (hw.rowCs (k := 4) rfl)) rfl ?_
        refine J.yes rfl rfl ?_
        refine J.neqStr rfl rfl rfl (by assumption) (by assumption) ?_
        refine J.as 284 (.bool false) rfl (by rw [decide_eq_false (fun h => h rfl)]) ?_
        refine J.pick_f rfl rfl rfl ?_
        refine J.end ?_
        refine X.then ?_
        refine T.cond_false rfl ?_
        refine T.skip ?_
        refine X.inBlock (X.then ?_)
        refine T.text [.l, .l, .l] rfl ?_
        refine J.move rfl rfl ?_
        refine J.add rfl rfl rfl (by first | exact add_nat _ 1 (by omega) | exact i64_ok _ (by omega) | exact rfl) ?_
        refine J.assign rfl rfl ?_
        refine J.end ?_
        exact X.round ⟨(i + 1), bs2, i2, r2⟩ ⟨by omega, by omega, hm2, hr2⟩ (by first | omega | (dsimp only; omega)) (by repeat (first | exact Sub.nil _ | refine Sub.cons (by first | rfl | (rw [dgs_zero]; rfl) | (rw [List.drop_length]; rfl) | (simp; done) | (congr 2; omega) | (congr 3; omega)) ?_)) (by repeat (first | exact Sub.nil _ | refine Sub.cons (by first | rfl | (rw [dgs_zero]; rfl) | (rw [List.drop_length]; rfl) | (simp; done) | (congr 2; omega) | (congr 3; omega)) ?_))
    · skip
      refine T.exit ?_
      refine X.then_exit (X.then_exit (X.inBlock_eq (X.then ?_)))
      refine T.seq ?_
      refine T.text [.l, .l] rfl ?_
      refine J.call0 (k := .l) trivial fok39 rfl rfl (fun w hw => Pg.wrote w) ?_
      refine J.assign rfl rfl ?_
      refine J.end ?_
      refine X.then ?_
      refine T.ret ?_
      exact X.ret1 rfl (RV.tmp rfl) (fun w' hw' => ⟨rfl, hw'.sub (Sub.nil _)⟩)
  · skip
    refine J.no rfl rfl rfl rfl ?_
    refine J.no rfl rfl rfl rfl ?_
    refine J.pick_f rfl rfl rfl ?_
    refine J.end ?_
    refine X.then ?_
    refine T.cond_false rfl ?_
    refine T.exit ?_
    refine X.then_exit (X.then_exit (X.inBlock_eq (X.then ?_)))
    refine T.seq ?_
    refine T.text [.l, .l] rfl ?_
    refine J.call0 (k := .l) trivial fok39 rfl rfl (fun w hw => Pg.wrote w) ?_
    refine J.assign rfl rfl ?_
    refine J.end ?_
    refine X.then ?_
    refine T.ret ?_
    exact X.ret1 rfl (RV.tmp rfl) (fun w' hw' => ⟨rfl, hw'.sub (Sub.nil _)⟩)
end Go.Proofs.Ytpkjbeebhdgleaa.Lj
