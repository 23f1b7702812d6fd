/-
  Walks, printed by gen.py: what each function hands back, said of numbers.
  Conditions: those that each theorem bears.
-/
import Derived.Test.YtpkjbeebhdgleaaChecked
import Derived.Test.YtpkjbeebhdgleaaFh
import Derived.Test.YtpkjbeebhdgleaaWa
import Derived.Test.YtpkjbeebhdgleaaRb
set_option linter.unusedVariables false
set_option maxRecDepth 20000
namespace Go.Proofs.Ytpkjbeebhdgleaa.Ma
open Go Go.Fw

theorem sz67 : SizeT Try.prog 67 32 := (by unfold SizeT; kernel_rfl)
theorem sz5 : SizeT Try.prog 5 1 := (by unfold SizeT; kernel_rfl)
theorem sl22 : SlT Try.prog 22 5 1 := ⟨Try.underlying22, sz5⟩
theorem one5 : OneT Try.prog 5 := ⟨⟨_, Try.underlying5, rfl⟩, by kernel_rfl⟩
theorem el5 : ElT Try.prog 5 1 1 (.int .u8 0) := ⟨by kernel_rfl, rfl, by decide, by decide⟩
theorem agg25 : AggT Try.prog 25 4 := ⟨⟨_, Try.underlying25, rfl⟩, by kernel_rfl⟩
theorem fok53 : FnOk Try.prog 53 := FnOk.mk' Try.func53 (by kernel_rfl) rfl
theorem fok54 : FnOk Try.prog 54 := FnOk.mk' Try.func54 (by kernel_rfl) rfl

theorem laid (w : World) (A0 : Option Addr) (c0 : Nat) (xs0 : List Nat) (hc0 : Cs w A0 (rowN .u8 xs0)) (hb0 : xs0.length ≤ 9223372036854775807) :
    Calls Try.prog 14 [.slice A0 xs0.length c0].toArray w fun e w' => LaidPost w 5 (xs0.take 70000) e w' := by
  refine calls_of_T [] 40 [] Try.func14 rfl Try.ntmps14 (by simp) (WS.refl _ _) ?_
  refine T.seq ?_
  refine T.text [.l] rfl ?_
  refine J.assign rfl rfl ?_
  refine J.end ?_
  refine X.then ?_
  refine T.seq ?_
  refine T.text [.l] rfl ?_
  refine J.assign rfl rfl ?_
  refine J.end ?_
  refine X.then ?_
  refine T.seq ?_
  refine T.seq ?_
  refine T.text [.l] rfl ?_
  refine J.assign rfl rfl ?_
  refine J.end ?_
  refine X.then ?_
  refine T.block ?_
  refine T.addNil 3 5 ?_
  refine T.loop (ι := Nat × RowIx) (fun ((i, r) : Nat × RowIx) => i ≤ xs0.length ∧ i ≤ 70000 ∧ r.Ok 1 (xs0.take i).length) (fun ((i, r) : Nat × RowIx) => [(0, .slice A0 xs0.length c0), (2, .slice none 0 0), (3, r.val (xs0.take i).length), (4, .int .i64 (i : Int))]) (fun ((i, r) : Nat × RowIx) => [(3, r.ent 5 (rowN .u8 (xs0.take i)))]) (fun ((i, r) : Nat × RowIx) => 70000 - i) ⟨0, RowIx.nil⟩ ⟨Nat.zero_le _, Nat.zero_le _, RowIx.nil_ok 1⟩ (by repeat (first | exact Sub.nil _ | refine Sub.cons (by first | rfl | (rw [show marks 0 = [] from rfl, List.append_nil]; rfl)| (rw [dgs_zero]; rfl) | (rw [List.drop_length]; rfl) | (simp; done) | (congr 2; omega) | (congr 3; omega)) ?_)) (by repeat (first | exact Sub.nil _ | refine Sub.cons (by first | rfl | (rw [show marks 0 = [] from rfl, List.append_nil]; rfl)| (rw [dgs_zero]; rfl) | (rw [List.drop_length]; rfl) | (simp; done) | (congr 2; omega) | (congr 3; omega)) ?_)) ?_
  rintro ⟨i, r⟩ ⟨hi, hi2, hr⟩
  try dsimp only at *
  have hlt : (xs0.take i).length = i := by rw [List.length_take]; omega
  refine T.seq ?_
  refine T.seq ?_
  refine T.text [.l, .l, .l, .l, .l, .l, .l, .l] rfl ?_
  refine J.move rfl rfl ?_
  refine J.move rfl rfl ?_
  refine J.lenSl Try.underlying22 rfl rfl ?_
  refine J.lss rfl rfl rfl rfl ?_
  refine J.move rfl rfl ?_
  refine J.split 11 rfl (fun h1 => ?_) (fun h1 => ?_)
  · skip
    refine J.yes rfl rfl ?_
    refine J.move rfl rfl ?_
    refine J.yes rfl rfl ?_
    refine J.lss rfl rfl rfl rfl ?_
    refine J.pick_t rfl rfl rfl ?_
    refine J.end ?_
    refine X.then ?_
    refine T.cond_dec rfl (fun h2 => ?_) (fun h2 => ?_)
    · skip
      refine T.skip ?_
      refine X.then ?_
      refine T.seq ?_
      refine T.block ?_
      refine T.text [.l, .l, .l, .l, .l, .l, .l, .l] rfl ?_
      refine J.move rfl rfl ?_
      refine J.move rfl rfl ?_
      refine J.move rfl rfl ?_
      refine J.indexSlI sl22 rfl (Cs.isSomeN hc0 (by omega)) rfl (by omega) (by omega) (by first | exact Int.toNat_natCast _ | rfl) rfl ?_
      refine J.loadI1 (k := .l) trivial hc0 (off_nil _) rfl one5 (by first | rfl | with_reducible exact rowN_get1 _ _ _ (by omega) | with_reducible exact rowN_get _ _ _ (by omega) | exact rowN_get1 _ _ _ (by omega)) rfl ?_
      refine J.lit1 22 rfl Try.underlying22 el5 (by decide) rfl [_] rfl rfl rfl (fun g22 hg22 => ?_)
      have hts := take_succ_getD xs0 i (by omega)
      refine J.append 3 rfl Try.underlying22 el5 rfl hr (by rw [rowN_length, Nat.mul_one]) rfl rfl rfl (fun w hw => (hw.blkCs (k := 22) rfl)) (by first | exact rowN_one _ _ | (intro u hu; simp at hu; subst hu; rfl)) (by omega) (by unfold maxLen; omega) rfl (xs0.take (i + 1)).length (by rw [hts]; simp) (rowN .u8 (xs0.take (i + 1))) (by rw [hts, rowN_append]; rfl) (fun r23 hr23 => ?_)
      refine J.assign rfl rfl ?_
      refine J.end ?_
      refine X.inBlock (X.then ?_)
      refine T.text [.l, .l, .l] rfl ?_
      refine J.move rfl rfl ?_
      refine J.add rfl rfl rfl (by first | exact add_nat _ 1 (by omega) | exact i64_ok _ (by omega) | exact rfl) ?_
      refine J.assign rfl rfl ?_
      refine J.end ?_
      exact X.round ⟨(i + 1), r23⟩ ⟨by omega, by omega, hr23⟩ (by first | omega | (dsimp only; omega)) (by repeat (first | exact Sub.nil _ | refine Sub.cons (by first | rfl | (rw [show marks 0 = [] from rfl, List.append_nil]; rfl)| (rw [dgs_zero]; rfl) | (rw [List.drop_length]; rfl) | (simp; done) | (congr 2; omega) | (congr 3; omega)) ?_)) (by repeat (first | exact Sub.nil _ | refine Sub.cons (by first | rfl | (rw [show marks 0 = [] from rfl, List.append_nil]; rfl)| (rw [dgs_zero]; rfl) | (rw [List.drop_length]; rfl) | (simp; done) | (congr 2; omega) | (congr 3; omega)) ?_))
    · skip
      refine T.exit ?_
      refine X.then_exit (X.then_exit (X.inBlock_eq (X.then ?_)))
      refine T.seq ?_
      refine T.text [.l, .l, .l] rfl ?_
      have hK : xs0.take i = xs0.take 70000 := by first | (rw [List.take_of_length_le (by omega), List.take_of_length_le (by omega)]; done) | (congr 1; omega)
      have hKl : (xs0.take 70000).length ≤ 70000 := by rw [List.length_take]; omega
      rw [hK] at hr ⊢
      refine J.move rfl rfl ?_
      refine J.lenSl Try.underlying22 rfl rfl ?_
      refine J.assign rfl rfl ?_
      refine J.end ?_
      refine X.then ?_
      refine T.seq ?_
      refine T.seq ?_
      refine T.text [.l] rfl ?_
      refine J.assign rfl rfl ?_
      refine J.end ?_
      refine X.then ?_
      refine T.block ?_
      refine T.loop (ι := Nat × RowIx) (fun ((q, r2) : Nat × RowIx) => q ≤ 75 ∧ r2.Ok 1 (xs0.take 70000 ++ marks q).length) (fun ((q, r2) : Nat × RowIx) => [(0, .slice A0 xs0.length c0), (2, .slice none 0 0), (4, .int .i64 (i : Int)), (7, .int .i64 (i : Int)), (8, .slice A0 xs0.length c0), (9, .int .i64 ((xs0.length : Nat) : Int)), (11, .bool true), (12, .int .i64 (i : Int)), (5, .int .i64 (((xs0.take 70000).length : Nat) : Int)), (3, r2.val (xs0.take 70000 ++ marks q).length), (6, .int .i64 (q : Int))]) (fun ((q, r2) : Nat × RowIx) => [(3, r2.ent 5 (rowN .u8 (xs0.take 70000 ++ marks q)))]) (fun ((q, r2) : Nat × RowIx) => 75 - q) ⟨0, r⟩ ⟨Nat.zero_le _, by rw [show marks 0 = [] from rfl, List.append_nil]; exact hr⟩ (by repeat (first | exact Sub.nil _ | refine Sub.cons (by first | rfl | (rw [show marks 0 = [] from rfl, List.append_nil]; rfl)| (rw [dgs_zero]; rfl) | (rw [List.drop_length]; rfl) | (simp; done) | (congr 2; omega) | (congr 3; omega)) ?_)) (by repeat (first | exact Sub.nil _ | refine Sub.cons (by first | rfl | (rw [show marks 0 = [] from rfl, List.append_nil]; rfl)| (rw [dgs_zero]; rfl) | (rw [List.drop_length]; rfl) | (simp; done) | (congr 2; omega) | (congr 3; omega)) ?_)) ?_
      rintro ⟨q, r2⟩ ⟨hq, hr2⟩
      try dsimp only at *
      have hl2 : (xs0.take 70000 ++ marks q).length = (xs0.take 70000).length + q := by rw [List.length_append, marks_length]
      have hms := marks_succ q
      have hq5 : q % 5 < 5 := Nat.mod_lt _ (by omega)
      refine T.seq ?_
      refine T.seq ?_
      refine T.text [.l, .l] rfl ?_
      refine J.move rfl rfl ?_
      refine J.lss rfl rfl rfl rfl ?_
      refine J.end ?_
      refine X.then ?_
      refine T.cond_dec rfl (fun h3 => ?_) (fun h3 => ?_)
      · skip
        refine T.skip ?_
        refine X.then ?_
        refine T.seq ?_
        refine T.block ?_
        refine T.text [.l, .l, .l, .l, .l, .l, .l, .l] rfl ?_
        refine J.move rfl rfl ?_
        refine J.move rfl rfl ?_
        refine J.rem rfl rfl rfl (by omega) (by first | exact rem_nat _ 5 | exact rem_ok _ _ (by omega) | exact rfl) ?_
        refine J.add rfl rfl rfl (by first | exact add_nat 201 _ (by omega) | exact i64_ok _ (by omega) | exact rfl) ?_
        refine J.conv (by rw [Try.underlying3]; rfl) Try.underlying5 rfl rfl (by first | exact wrap8_nat' _ (by omega) | exact wrap8_nat _ | exact u8_ok _ (by omega) | exact u8_wrap _) ?_
        refine J.lit1 35 rfl Try.underlying22 el5 (by decide) rfl [_] rfl rfl rfl (fun g35 hg35 => ?_)
        refine J.append 3 rfl Try.underlying22 el5 rfl hr2 (by rw [rowN_length, Nat.mul_one]) rfl rfl rfl (fun w hw => (hw.blkCs (k := 35) rfl)) (by first | exact rowN_one _ _ | (intro u hu; simp at hu; subst hu; rfl)) (by omega) (by unfold maxLen; omega) rfl (xs0.take 70000 ++ marks (q + 1)).length (by rw [hms]; simp only [List.length_append, List.length_singleton]; omega) (rowN .u8 (xs0.take 70000 ++ marks (q + 1))) (by rw [hms, ← List.append_assoc]; exact (rowN_append .u8 _ [_]).symm) (fun r36 hr36 => ?_)
        refine J.assign rfl rfl ?_
        refine J.end ?_
        refine X.inBlock (X.then ?_)
        refine T.text [.l, .l, .l] rfl ?_
        refine J.move rfl rfl ?_
        refine J.add rfl rfl rfl (by first | exact add_nat _ 1 (by omega) | exact i64_ok _ (by omega) | exact rfl) ?_
        refine J.assign rfl rfl ?_
        refine J.end ?_
        exact X.round ⟨(q + 1), r36⟩ ⟨by omega, hr36⟩ (by first | omega | (dsimp only; omega)) (by repeat (first | exact Sub.nil _ | refine Sub.cons (by first | rfl | (rw [show marks 0 = [] from rfl, List.append_nil]; rfl)| (rw [dgs_zero]; rfl) | (rw [List.drop_length]; rfl) | (simp; done) | (congr 2; omega) | (congr 3; omega)) ?_)) (by repeat (first | exact Sub.nil _ | refine Sub.cons (by first | rfl | (rw [show marks 0 = [] from rfl, List.append_nil]; rfl)| (rw [dgs_zero]; rfl) | (rw [List.drop_length]; rfl) | (simp; done) | (congr 2; omega) | (congr 3; omega)) ?_))
      · skip
        refine T.exit ?_
        refine X.then_exit (X.then_exit (X.inBlock_eq (X.then ?_)))
        refine T.seq ?_
        refine T.text [.l, .l, .l, .l] rfl ?_
        refine J.move rfl rfl ?_
        refine J.move rfl rfl ?_
        obtain rfl : q = 75 := by omega
        have hcap := hr2.le
        refine J.sliceSl sl22 rfl optInt.none (optInt.some rfl (by omega) (by first | exact Int.toNat_natCast _ | rfl)) optInt.none (by simp) (by omega) (by omega) (by omega) rfl rfl ?_
        refine J.as 39 (.slice (hdOf r2.id) (xs0.take 70000).length r2.cap) rfl (by rw [if_neg (by omega), Nat.zero_mul, hdOf_add0, Nat.sub_zero, Nat.sub_zero]) ?_
        refine J.assign rfl rfl ?_
        refine J.end ?_
        refine X.then ?_
        refine T.ret ?_
        exact X.ret1 rfl (RV.tmp rfl) (fun w' hw' => ⟨r2, by rw [hl2] at hr2; exact hr2, rfl, hw'.only 3 0 rfl⟩)
  · skip
    refine J.no rfl rfl rfl rfl ?_
    refine J.no rfl rfl rfl rfl ?_
    refine J.pick_f rfl rfl rfl ?_
    refine J.end ?_
    refine X.then ?_
    refine T.cond_false rfl ?_
    refine T.exit ?_
    refine X.then_exit (X.then_exit (X.inBlock_eq (X.then ?_)))
    refine T.seq ?_
    refine T.text [.l, .l, .l] rfl ?_
    have hK : xs0.take i = xs0.take 70000 := by first | (rw [List.take_of_length_le (by omega), List.take_of_length_le (by omega)]; done) | (congr 1; omega)
    have hKl : (xs0.take 70000).length ≤ 70000 := by rw [List.length_take]; omega
    rw [hK] at hr ⊢
    refine J.move rfl rfl ?_
    refine J.lenSl Try.underlying22 rfl rfl ?_
    refine J.assign rfl rfl ?_
    refine J.end ?_
    refine X.then ?_
    refine T.seq ?_
    refine T.seq ?_
    refine T.text [.l] rfl ?_
    refine J.assign rfl rfl ?_
    refine J.end ?_
    refine X.then ?_
    refine T.block ?_
    refine T.loop (ι := Nat × RowIx) (fun ((q, r2) : Nat × RowIx) => q ≤ 75 ∧ r2.Ok 1 (xs0.take 70000 ++ marks q).length) (fun ((q, r2) : Nat × RowIx) => [(0, .slice A0 xs0.length c0), (2, .slice none 0 0), (4, .int .i64 (i : Int)), (7, .int .i64 (i : Int)), (8, .slice A0 xs0.length c0), (9, .int .i64 ((xs0.length : Nat) : Int)), (11, .bool false), (12, undef), (13, undef), (14, .bool false), (5, .int .i64 (((xs0.take 70000).length : Nat) : Int)), (3, r2.val (xs0.take 70000 ++ marks q).length), (6, .int .i64 (q : Int))]) (fun ((q, r2) : Nat × RowIx) => [(3, r2.ent 5 (rowN .u8 (xs0.take 70000 ++ marks q)))]) (fun ((q, r2) : Nat × RowIx) => 75 - q) ⟨0, r⟩ ⟨Nat.zero_le _, by rw [show marks 0 = [] from rfl, List.append_nil]; exact hr⟩ (by repeat (first | exact Sub.nil _ | refine Sub.cons (by first | rfl | (rw [show marks 0 = [] from rfl, List.append_nil]; rfl)| (rw [dgs_zero]; rfl) | (rw [List.drop_length]; rfl) | (simp; done) | (congr 2; omega) | (congr 3; omega)) ?_)) (by repeat (first | exact Sub.nil _ | refine Sub.cons (by first | rfl | (rw [show marks 0 = [] from rfl, List.append_nil]; rfl)| (rw [dgs_zero]; rfl) | (rw [List.drop_length]; rfl) | (simp; done) | (congr 2; omega) | (congr 3; omega)) ?_)) ?_
    rintro ⟨q, r2⟩ ⟨hq, hr2⟩
    try dsimp only at *
    have hl2 : (xs0.take 70000 ++ marks q).length = (xs0.take 70000).length + q := by rw [List.length_append, marks_length]
    have hms := marks_succ q
    have hq5 : q % 5 < 5 := Nat.mod_lt _ (by omega)
    refine T.seq ?_
    refine T.seq ?_
    refine T.text [.l, .l] rfl ?_
    refine J.move rfl rfl ?_
    refine J.lss rfl rfl rfl rfl ?_
    refine J.end ?_
    refine X.then ?_
    refine T.cond_dec rfl (fun h4 => ?_) (fun h4 => ?_)
    · skip
      refine T.skip ?_
      refine X.then ?_
      refine T.seq ?_
      refine T.block ?_
      refine T.text [.l, .l, .l, .l, .l, .l, .l, .l] rfl ?_
      refine J.move rfl rfl ?_
      refine J.move rfl rfl ?_
      refine J.rem rfl rfl rfl (by omega) (by first | exact rem_nat _ 5 | exact rem_ok _ _ (by omega) | exact rfl) ?_
      refine J.add rfl rfl rfl (by first | exact add_nat 201 _ (by omega) | exact i64_ok _ (by omega) | exact rfl) ?_
      refine J.conv (by rw [Try.underlying3]; rfl) Try.underlying5 rfl rfl (by first | exact wrap8_nat' _ (by omega) | exact wrap8_nat _ | exact u8_ok _ (by omega) | exact u8_wrap _) ?_
      refine J.lit1 35 rfl Try.underlying22 el5 (by decide) rfl [_] rfl rfl rfl (fun g35 hg35 => ?_)
      refine J.append 3 rfl Try.underlying22 el5 rfl hr2 (by rw [rowN_length, Nat.mul_one]) rfl rfl rfl (fun w hw => (hw.blkCs (k := 35) rfl)) (by first | exact rowN_one _ _ | (intro u hu; simp at hu; subst hu; rfl)) (by omega) (by unfold maxLen; omega) rfl (xs0.take 70000 ++ marks (q + 1)).length (by rw [hms]; simp only [List.length_append, List.length_singleton]; omega) (rowN .u8 (xs0.take 70000 ++ marks (q + 1))) (by rw [hms, ← List.append_assoc]; exact (rowN_append .u8 _ [_]).symm) (fun r36 hr36 => ?_)
      refine J.assign rfl rfl ?_
      refine J.end ?_
      refine X.inBlock (X.then ?_)
      refine T.text [.l, .l, .l] rfl ?_
      refine J.move rfl rfl ?_
      refine J.add rfl rfl rfl (by first | exact add_nat _ 1 (by omega) | exact i64_ok _ (by omega) | exact rfl) ?_
      refine J.assign rfl rfl ?_
      refine J.end ?_
      exact X.round ⟨(q + 1), r36⟩ ⟨by omega, hr36⟩ (by first | omega | (dsimp only; omega)) (by repeat (first | exact Sub.nil _ | refine Sub.cons (by first | rfl | (rw [show marks 0 = [] from rfl, List.append_nil]; rfl)| (rw [dgs_zero]; rfl) | (rw [List.drop_length]; rfl) | (simp; done) | (congr 2; omega) | (congr 3; omega)) ?_)) (by repeat (first | exact Sub.nil _ | refine Sub.cons (by first | rfl | (rw [show marks 0 = [] from rfl, List.append_nil]; rfl)| (rw [dgs_zero]; rfl) | (rw [List.drop_length]; rfl) | (simp; done) | (congr 2; omega) | (congr 3; omega)) ?_))
    · skip
      refine T.exit ?_
      refine X.then_exit (X.then_exit (X.inBlock_eq (X.then ?_)))
      refine T.seq ?_
      refine T.text [.l, .l, .l, .l] rfl ?_
      refine J.move rfl rfl ?_
      refine J.move rfl rfl ?_
      obtain rfl : q = 75 := by omega
      have hcap := hr2.le
      refine J.sliceSl sl22 rfl optInt.none (optInt.some rfl (by omega) (by first | exact Int.toNat_natCast _ | rfl)) optInt.none (by simp) (by omega) (by omega) (by omega) rfl rfl ?_
      refine J.as 39 (.slice (hdOf r2.id) (xs0.take 70000).length r2.cap) rfl (by rw [if_neg (by omega), Nat.zero_mul, hdOf_add0, Nat.sub_zero, Nat.sub_zero]) ?_
      refine J.assign rfl rfl ?_
      refine J.end ?_
      refine X.then ?_
      refine T.ret ?_
      exact X.ret1 rfl (RV.tmp rfl) (fun w' hw' => ⟨r2, by rw [hl2] at hr2; exact hr2, rfl, hw'.only 3 0 rfl⟩)

theorem stands (w : World) (A0 : Option Addr) (c0 : Nat) (ys : List Nat) (hc0 : Cs w A0 (rowN .u8 (ys ++ marks 75))) (A1 : Option Addr) (c1 : Nat) (xs1 : List Nat) (hc1 : Cs w A1 (rowN .u8 xs1)) (hys : ys = xs1.take 70000) (hcap : ys.length + 75 ≤ c0) :
    Calls Try.prog 17 [.slice A0 ys.length c0, .slice A1 xs1.length c1].toArray w fun e w' => e = .returned (.bool true) ∧ WS w [] [] w' := by
  have hyl : ys.length ≤ 70000 := by rw [hys, List.length_take]; omega
  have hyx : ys.length ≤ xs1.length := by rw [hys, List.length_take]; omega
  have hml : (ys ++ marks 75).length = ys.length + 75 := by rw [List.length_append, marks_length]
  refine calls_of_T [] 44 [] Try.func17 rfl Try.ntmps17 (by simp) (WS.refl _ _) ?_
  refine T.seq ?_
  refine T.text [.l] rfl ?_
  refine J.assign rfl rfl ?_
  refine J.end ?_
  refine X.then ?_
  refine T.seq ?_
  refine T.text [.l, .l, .l] rfl ?_
  refine J.move rfl rfl ?_
  refine J.lenSl Try.underlying22 rfl rfl ?_
  refine J.assign rfl rfl ?_
  refine J.end ?_
  refine X.then ?_
  refine T.seq ?_
  refine T.text [.l, .l, .l, .l, .l] rfl ?_
  refine J.move rfl rfl ?_
  refine J.move rfl rfl ?_
  refine J.add rfl rfl rfl (by first | exact add_nat _ 75 (by omega) | exact i64_ok _ (by omega) | exact rfl) ?_
  refine J.sliceSl sl22 rfl optInt.none (optInt.some rfl (by omega) (by first | exact Int.toNat_natCast _ | rfl)) optInt.none (by simp) (by omega) (by omega) (by omega) rfl rfl ?_
  refine J.as 14 (.slice A0 (ys.length + 75) c0) rfl (by rw [if_neg (by omega), Nat.zero_mul, add0, Nat.sub_zero, Nat.sub_zero]) ?_
  refine J.assign rfl rfl ?_
  refine J.end ?_
  refine X.then ?_
  refine T.seq ?_
  refine T.seq ?_
  refine T.text [.l] rfl ?_
  refine J.assign rfl rfl ?_
  refine J.end ?_
  refine X.then ?_
  refine T.block ?_
  refine T.loop (ι := Nat) (fun (i : Nat) => i ≤ ys.length) (fun (i : Nat) => [(0, .slice A0 ys.length c0), (1, .slice A1 xs1.length c1), (9, .slice A0 ys.length c0), (10, .int .i64 ((ys.length : Nat) : Int)), (5, .int .i64 ((ys.length : Nat) : Int)), (11, .slice A0 ys.length c0), (12, .int .i64 ((ys.length : Nat) : Int)), (14, .slice A0 (ys.length + 75) c0), (6, .slice A0 (ys.length + 75) c0), (7, .int .i64 (i : Int))]) (fun (i : Nat) => []) (fun (i : Nat) => ys.length - i) 0 (Nat.zero_le _) (by repeat (first | exact Sub.nil _ | refine Sub.cons (by first | rfl | (rw [dgs_zero]; rfl) | (rw [List.drop_length]; rfl) | (simp; done) | (congr 2; omega) | (congr 3; omega)) ?_)) (by repeat (first | exact Sub.nil _ | refine Sub.cons (by first | rfl | (rw [dgs_zero]; rfl) | (rw [List.drop_length]; rfl) | (simp; done) | (congr 2; omega) | (congr 3; omega)) ?_)) ?_
  rintro i hi
  refine T.seq ?_
  refine T.seq ?_
  refine T.text [.l, .l, .l] rfl ?_
  refine J.move rfl rfl ?_
  refine J.move rfl rfl ?_
  refine J.lss rfl rfl rfl rfl ?_
  refine J.end ?_
  refine X.then ?_
  refine T.cond_dec rfl (fun h1 => ?_) (fun h1 => ?_)
  · skip
    refine T.skip ?_
    refine X.then ?_
    refine T.seq ?_
    refine T.block ?_
    refine T.seq ?_
    refine T.draw [] [(0, .g), (1, .g), (2, .g), (3, .q), (4, .g), (5, .g), (6, .g), (7, .q), (8, .g)] (by kernel_rfl) (by kernel_rfl) ?_ (by repeat (first | exact Sub.nil _ | refine Sub.cons (by first | rfl | (rw [dgs_zero]; rfl) | (rw [List.drop_length]; rfl) | (simp; done) | (congr 2; omega) | (congr 3; omega)) ?_))
    refine J.move rfl rfl ?_
    refine J.move rfl rfl ?_
    refine J.indexSlI sl22 rfl (hc0.isSomeN (by omega)) rfl (by omega) (by omega) (by first | exact Int.toNat_natCast _ | rfl) rfl ?_
    refine J.loadI1 (k := .q) trivial hc0 (off_nil _) rfl one5 (by first | rfl | with_reducible exact rowN_get1 _ _ _ (by omega) | with_reducible exact rowN_get _ _ _ (by omega) | exact rowN_get1 _ _ _ (by omega)) rfl ?_
    refine J.as 23 (.int .u8 ((xs1.getD i 0 : Nat) : Int)) rfl (by rw [getD_append_left _ _ _ (by omega), hys, getD_take _ _ _ (by omega)]) ?_
    refine J.move rfl rfl ?_
    refine J.move rfl rfl ?_
    refine J.indexSlI sl22 rfl (Cs.isSomeN hc1 (by omega)) rfl (by omega) (by omega) (by first | exact Int.toNat_natCast _ | rfl) rfl ?_
    refine J.loadI1 (k := .q) trivial hc1 (off_nil _) rfl one5 (by first | rfl | with_reducible exact rowN_get1 _ _ _ (by omega) | with_reducible exact rowN_get _ _ _ (by omega) | exact rowN_get1 _ _ _ (by omega)) rfl ?_
    refine J.neq rfl rfl rfl (decide_eq_false (fun h => h rfl)) ?_
    refine J.end ?_
    refine X.then ?_
    refine T.cond_false rfl ?_
    refine T.skip ?_
    refine X.inBlock (X.then ?_)
    refine T.text [.l, .l, .l] rfl ?_
    refine J.move rfl rfl ?_
    refine J.add rfl rfl rfl (by first | exact add_nat _ 1 (by omega) | exact i64_ok _ (by omega) | exact rfl) ?_
    refine J.assign rfl rfl ?_
    refine J.end ?_
    exact X.round (i + 1) (by omega) (by first | omega | (dsimp only; omega)) (by repeat (first | exact Sub.nil _ | refine Sub.cons (by first | rfl | (rw [dgs_zero]; rfl) | (rw [List.drop_length]; rfl) | (simp; done) | (congr 2; omega) | (congr 3; omega)) ?_)) (by repeat (first | exact Sub.nil _ | refine Sub.cons (by first | rfl | (rw [dgs_zero]; rfl) | (rw [List.drop_length]; rfl) | (simp; done) | (congr 2; omega) | (congr 3; omega)) ?_))
  · skip
    refine T.exit ?_
    refine X.then_exit (X.then_exit (X.inBlock_eq (X.then ?_)))
    refine T.seq ?_
    refine T.seq ?_
    refine T.text [.l] rfl ?_
    refine J.assign rfl rfl ?_
    refine J.end ?_
    refine X.then ?_
    refine T.block ?_
    refine T.loop (ι := Nat) (fun (q : Nat) => q ≤ 75) (fun (q : Nat) => [(0, .slice A0 ys.length c0), (1, .slice A1 xs1.length c1), (9, .slice A0 ys.length c0), (10, .int .i64 ((ys.length : Nat) : Int)), (5, .int .i64 ((ys.length : Nat) : Int)), (11, .slice A0 ys.length c0), (12, .int .i64 ((ys.length : Nat) : Int)), (14, .slice A0 (ys.length + 75) c0), (6, .slice A0 (ys.length + 75) c0), (7, .int .i64 (i : Int)), (15, .int .i64 (i : Int)), (16, .int .i64 ((ys.length : Nat) : Int)), (8, .int .i64 (q : Int))]) (fun (q : Nat) => []) (fun (q : Nat) => 75 - q) 0 (Nat.zero_le _) (by repeat (first | exact Sub.nil _ | refine Sub.cons (by first | rfl | (rw [dgs_zero]; rfl) | (rw [List.drop_length]; rfl) | (simp; done) | (congr 2; omega) | (congr 3; omega)) ?_)) (by repeat (first | exact Sub.nil _ | refine Sub.cons (by first | rfl | (rw [dgs_zero]; rfl) | (rw [List.drop_length]; rfl) | (simp; done) | (congr 2; omega) | (congr 3; omega)) ?_)) ?_
    rintro q hq
    have hq5 : q % 5 < 5 := Nat.mod_lt _ (by omega)
    refine T.seq ?_
    refine T.seq ?_
    refine T.text [.l, .l] rfl ?_
    refine J.move rfl rfl ?_
    refine J.lss rfl rfl rfl rfl ?_
    refine J.end ?_
    refine X.then ?_
    refine T.cond_dec rfl (fun h2 => ?_) (fun h2 => ?_)
    · skip
      refine T.skip ?_
      refine X.then ?_
      refine T.seq ?_
      refine T.block ?_
      refine T.seq ?_
      refine T.text [.l, .l, .l, .l, .l, .l, .l, .l, .l, .l, .l] rfl ?_
      refine J.move rfl rfl ?_
      refine J.move rfl rfl ?_
      refine J.move rfl rfl ?_
      refine J.add rfl rfl rfl (by first | exact add_nat _ _ (by omega) | exact i64_ok _ (by omega) | exact rfl) ?_
      refine J.indexSlI sl22 rfl (hc0.isSomeN (by omega)) rfl (by omega) (by omega) (by first | exact Int.toNat_natCast _ | rfl) rfl ?_
      refine J.loadI1 (k := .l) trivial hc0 (off_nil _) rfl one5 (by first | rfl | with_reducible exact rowN_get1 _ _ _ (by omega) | with_reducible exact rowN_get _ _ _ (by omega) | exact rowN_get1 _ _ _ (by omega)) rfl ?_
      refine J.as 38 (.int .u8 ((201 + q % 5 : Nat) : Int)) rfl (by rw [getD_append_right, marks_get _ _ (by omega)]) ?_
      refine J.move rfl rfl ?_
      refine J.rem rfl rfl rfl (by omega) (by first | exact rem_nat _ 5 | exact rem_ok _ _ (by omega) | exact rfl) ?_
      refine J.add rfl rfl rfl (by first | exact add_nat 201 _ (by omega) | exact i64_ok _ (by omega) | exact rfl) ?_
      refine J.conv (by rw [Try.underlying3]; rfl) Try.underlying5 rfl rfl (by first | exact wrap8_nat' _ (by omega) | exact wrap8_nat _ | exact u8_ok _ (by omega) | exact u8_wrap _) ?_
      refine J.neq rfl rfl rfl (decide_eq_false (fun h => h rfl)) ?_
      refine J.end ?_
      refine X.then ?_
      refine T.cond_false rfl ?_
      refine T.skip ?_
      refine X.inBlock (X.then ?_)
      refine T.text [.l, .l, .l] rfl ?_
      refine J.move rfl rfl ?_
      refine J.add rfl rfl rfl (by first | exact add_nat _ 1 (by omega) | exact i64_ok _ (by omega) | exact rfl) ?_
      refine J.assign rfl rfl ?_
      refine J.end ?_
      exact X.round (q + 1) (by omega) (by first | omega | (dsimp only; omega)) (by repeat (first | exact Sub.nil _ | refine Sub.cons (by first | rfl | (rw [dgs_zero]; rfl) | (rw [List.drop_length]; rfl) | (simp; done) | (congr 2; omega) | (congr 3; omega)) ?_)) (by repeat (first | exact Sub.nil _ | refine Sub.cons (by first | rfl | (rw [dgs_zero]; rfl) | (rw [List.drop_length]; rfl) | (simp; done) | (congr 2; omega) | (congr 3; omega)) ?_))
    · skip
      refine T.exit ?_
      refine X.then_exit (X.then_exit (X.inBlock_eq (X.then ?_)))
      refine T.seq ?_
      refine T.text [.l] rfl ?_
      refine J.assign rfl rfl ?_
      refine J.end ?_
      refine X.then ?_
      refine T.ret ?_
      exact X.ret1 rfl (RV.tmp rfl) (fun w' hw' => ⟨rfl, hw'.sub (Sub.nil _)⟩)

theorem Row (w : World) (A0 : Option Addr) (c0 : Nat) (xs0 : List Nat) (hc0 : Cs w A0 (rowN .u8 xs0)) (hx0 : Dg xs0) (hb0 : xs0.length ≤ 4294967296) (hk0 : xs0.length ≤ c0) (x1 : Nat) (n : Int) (hn : -9223372036854775808 ≤ n ∧ n ≤ 9223372036854775807) :
    Calls Try.prog 15 [.slice A0 xs0.length c0, W x1, .int .i64 n].toArray w fun e w' => RowEPost w 5 .u8 (fun zs e => zs = rowR xs0 x1 n ∧ e = rowRe n) e w' := by
  refine calls_of_T [] 38 [] Try.func15 rfl Try.ntmps15 (by simp) (WS.refl _ _) ?_
  refine T.seq ?_
  refine T.text [.l, .l, .l] rfl ?_
  refine J.box 4 rfl rfl (wc x1) rfl rfl (fun g4 hg4 => ?_)
  refine J.assign rfl rfl ?_
  refine J.assign rfl rfl ?_
  refine J.end ?_
  refine X.then ?_
  refine T.seq ?_
  refine T.seq ?_
  refine T.text [.l, .l, .l, .l, .l, .l] rfl ?_
  refine J.move rfl rfl ?_
  refine J.lss rfl rfl rfl rfl ?_
  refine J.move rfl rfl ?_
  refine J.split 13 rfl (fun h1 => ?_) (fun h1 => ?_)
  · skip
    refine J.no rfl rfl rfl rfl ?_
    refine J.no rfl rfl rfl rfl ?_
    refine J.pick_t rfl rfl rfl ?_
    refine J.end ?_
    refine X.then ?_
    refine T.cond_true rfl ?_
    refine T.seq ?_
    refine T.text [.l, .l] rfl ?_
    refine J.assign rfl rfl ?_
    refine J.assign rfl rfl ?_
    refine J.end ?_
    refine X.then ?_
    refine T.ret ?_
    refine X.then_ret ?_
    exact X.ret2 rfl (RV.tmp rfl) (RV.tmp rfl) (fun w' hw' => RowEPost.nil 1 ⟨by unfold rowR; rw [if_pos (by omega)], by unfold rowRe; rw [if_pos (by omega)]⟩ rfl hw')
  · skip
    refine J.yes rfl rfl ?_
    refine J.move rfl rfl ?_
    refine J.yes rfl rfl ?_
    refine J.gtr rfl rfl rfl rfl ?_
    refine J.pick_f rfl rfl rfl ?_
    refine J.end ?_
    refine X.then ?_
    refine T.cond_dec rfl (fun h2 => ?_) (fun h2 => ?_)
    · skip
      refine T.seq ?_
      refine T.text [.l, .l] rfl ?_
      refine J.assign rfl rfl ?_
      refine J.assign rfl rfl ?_
      refine J.end ?_
      refine X.then ?_
      refine T.ret ?_
      refine X.then_ret ?_
      exact X.ret2 rfl (RV.tmp rfl) (RV.tmp rfl) (fun w' hw' => RowEPost.nil 1 ⟨by unfold rowR; rw [if_pos (by omega)], by unfold rowRe; rw [if_pos (by omega)]⟩ rfl hw')
    · obtain ⟨m, rfl⟩ := Int.eq_ofNat_of_zero_le (show 0 ≤ n by omega)
      refine T.skip ?_
      refine X.then ?_
      refine T.seq ?_
      refine T.text [.l, .l, .l] rfl ?_
      refine J.move rfl rfl ?_
      refine J.makeSlice 18 rfl (q := m) (c0 := m) Try.underlying22 el5 rfl rfl (by first | rfl | omega) (by first | rfl | omega) (by omega) (by omega) (by unfold maxLen; omega) rfl (fun g18 hg18 => ?_)
      rw [zeros_nat]
      refine J.assign rfl rfl ?_
      refine J.end ?_
      refine X.then ?_
      refine T.seq ?_
      refine T.seq ?_
      refine T.text [.l, .l, .l, .l, .l, .l, .l] rfl ?_
      refine J.loadN (k := .l) trivial 4 rfl rfl agg25 (wc x1) rfl rfl rfl ?_
      refine J.call0 (k := .l) trivial fok53 rfl rfl (fun w hw => Wa.Uint w _) ?_
      refine J.move rfl rfl ?_
      refine J.extract rfl rfl rfl ?_
      refine J.extract rfl rfl rfl ?_
      refine J.assign rfl rfl ?_
      refine J.assign rfl rfl ?_
      refine J.end ?_
      refine X.then ?_
      refine T.seq ?_
      refine T.text [.l, .l, .l, .l, .l, .l, .l, .l] rfl ?_
      refine J.move rfl rfl ?_
      refine J.move rfl rfl ?_
      refine J.split 25 rfl (fun h3 => ?_) (fun h3 => ?_)
      · refine J.as 9 (.int .u64 ((x1 % 2 ^ 256 : Nat) : Int)) rfl (by rw [if_neg h3, lim_small _ (by omega)]) ?_
        refine J.yes rfl rfl ?_
        refine J.move rfl rfl ?_
        refine J.yes rfl rfl ?_
        refine J.move rfl rfl ?_
        refine J.yes rfl rfl ?_
        refine J.lenSl Try.underlying22 rfl rfl ?_
        refine J.yes rfl rfl ?_
        refine J.conv (by rw [Try.underlying3]; rfl) Try.underlying23 rfl rfl (by first | exact wrapu_nat' _ (by omega) | exact wrapu_nat _ | exact u64_wrap _) ?_
        refine J.yes rfl rfl ?_
        refine J.lss rfl rfl rfl rfl ?_
        refine J.pick_t rfl rfl rfl ?_
        refine J.end ?_
        refine X.then ?_
        refine T.cond_dec rfl (fun h4 => ?_) (fun h4 => ?_)
        · skip
          refine T.text [.l, .l, .l, .l, .l] rfl ?_
          refine J.move rfl rfl ?_
          refine J.move rfl rfl ?_
          refine J.move rfl rfl ?_
          refine J.sliceSl sl22 rfl (optInt.some rfl (by omega) (by first | exact Int.toNat_natCast _ | rfl)) optInt.none optInt.none (by simp) (by omega) (by omega) (by omega) rfl rfl ?_
          have hcs35 : Cs w (if c0 = x1 % 2 ^ 256 then A0 else A0.map (·.add (x1 % 2 ^ 256 * 1))) (rowN .u8 (xs0.drop (x1 % 2 ^ 256))) := by
                have := hc0.cut (x1 % 2 ^ 256) 1 c0 (fun e => by rw [rowN_length]; omega)
                rw [Nat.mul_one] at this ⊢
                simpa [rowN, List.map_drop] using this
          refine J.copy 18 rfl (o := 0) (q := (min (xs0.length - x1 % 2 ^ 256) m)) (news := (rowN .u8 ((xs0.drop (x1 % 2 ^ 256)).take m))) sl22 (by decide) rfl rfl rfl (fun _ => rfl) rfl (by rw [rowN_length, List.length_take, List.length_drop, Nat.mul_one, Nat.min_comm]) (fun w hw => ((by have := (hcs35.take m); simpa [rowN, List.map_take] using this : Cs _ _ (rowN .u8 ((xs0.drop (x1 % 2 ^ 256)).take m))).ws hw (off_nil _))) (by first | exact rowN_one _ _ | exact rowW_one _) (by rw [rowN_length]; show _ ≤ (rowN .u8 (List.replicate m 0)).length; rw [rowN_length, List.length_replicate, List.length_take]; omega) rfl (rowN .u8 (rowB xs0 x1 m)) ((put_zero .u8 m _ (by rw [List.length_take]; omega)).trans (by rw [rowB_near])) ?_
          refine J.end ?_
          refine X.then ?_
          refine T.seq ?_
          refine T.text [.l, .l, .l] rfl ?_
          refine J.move rfl rfl ?_
          refine J.assign rfl rfl ?_
          refine J.assign rfl rfl ?_
          refine J.end ?_
          refine X.then ?_
          refine T.ret ?_
          exact X.ret2 rfl (RV.tmp rfl) (RV.tmp rfl) (fun w' hw' => RowEPost.mk' (rowB xs0 x1 m) 0 ⟨by unfold rowR; rw [if_neg (by omega)]; rfl, by unfold rowRe; rw [if_neg (by omega)]⟩ ⟨some g18, m, []⟩ (by rw [rowB_length]; exact RowIx.blk_ok _ _ (by unfold maxLen; omega)) (by rw [rowB_length]; rfl) hw' 18 (by simp [RowIx.ent]; rfl))
        · skip
          refine T.skip ?_
          refine X.then ?_
          refine T.seq ?_
          refine T.text [.l, .l, .l] rfl ?_
          refine J.move rfl rfl ?_
          refine J.assign rfl rfl ?_
          refine J.assign rfl rfl ?_
          refine J.end ?_
          refine X.then ?_
          refine T.ret ?_
          exact X.ret2 rfl (RV.tmp rfl) (RV.tmp rfl) (fun w' hw' => RowEPost.mk' (rowB xs0 x1 m) 0 ⟨by unfold rowR; rw [if_neg (by omega)]; rfl, by unfold rowRe; rw [if_neg (by omega)]⟩ ⟨some g18, m, []⟩ (by rw [rowB_length]; exact RowIx.blk_ok _ _ (by unfold maxLen; omega)) (by rw [rowB_length]; rfl) hw' 18 (by rw [rowB_far _ _ _ (by omega)]; simp [RowIx.ent]; rfl))
      · have hbig := sizeN_big x1 (by omega)
        refine J.no rfl rfl rfl rfl ?_
        refine J.no rfl rfl rfl rfl ?_
        refine J.no rfl rfl rfl rfl ?_
        refine J.no rfl rfl rfl rfl ?_
        refine J.no rfl rfl rfl rfl ?_
        refine J.pick_f rfl rfl rfl ?_
        refine J.end ?_
        refine X.then ?_
        refine T.cond_false rfl ?_
        refine T.skip ?_
        refine X.then ?_
        refine T.seq ?_
        refine T.text [.l, .l, .l] rfl ?_
        refine J.move rfl rfl ?_
        refine J.assign rfl rfl ?_
        refine J.assign rfl rfl ?_
        refine J.end ?_
        refine X.then ?_
        refine T.ret ?_
        exact X.ret2 rfl (RV.tmp rfl) (RV.tmp rfl) (fun w' hw' => RowEPost.mk' (rowB xs0 x1 m) 0 ⟨by unfold rowR; rw [if_neg (by omega)]; rfl, by unfold rowRe; rw [if_neg (by omega)]⟩ ⟨some g18, m, []⟩ (by rw [rowB_length]; exact RowIx.blk_ok _ _ (by unfold maxLen; omega)) (by rw [rowB_length]; rfl) hw' 18 (by rw [rowB_far _ _ _ (by omega)]; simp [RowIx.ent]; rfl))

theorem rRow (w : World) (A0 : Option Addr) (c0 : Nat) (xs0 : List Nat) (hc0 : Cs w A0 (rowN .u8 xs0)) (hx0 : Dg xs0) (hb0 : xs0.length ≤ 4294967296) (hk0 : xs0.length ≤ c0) (x1 : Nat) (n : Int) (hn : -9223372036854775808 ≤ n ∧ n ≤ 9223372036854775807) :
    Calls Try.prog 16 [.slice A0 xs0.length c0, W x1, .int .i64 n].toArray w fun e w' => RowEPost w 5 .u8 (fun zs e => zs = rowR xs0 x1 n ∧ e = rowRe n) e w' := by
  refine calls_of_T [] 60 [] Try.func16 rfl Try.ntmps16 (by simp) (WS.refl _ _) ?_
  refine T.seq ?_
  refine T.text [.l, .l, .l] rfl ?_
  refine J.box 4 rfl rfl (wc x1) rfl rfl (fun g4 hg4 => ?_)
  refine J.assign rfl rfl ?_
  refine J.assign rfl rfl ?_
  refine J.end ?_
  refine X.then ?_
  refine T.seq ?_
  refine T.seq ?_
  refine T.text [.l, .l, .l, .l, .l, .l] rfl ?_
  refine J.move rfl rfl ?_
  refine J.lss rfl rfl rfl rfl ?_
  refine J.move rfl rfl ?_
  refine J.split 14 rfl (fun h1 => ?_) (fun h1 => ?_)
  · skip
    refine J.no rfl rfl rfl rfl ?_
    refine J.no rfl rfl rfl rfl ?_
    refine J.pick_t rfl rfl rfl ?_
    refine J.end ?_
    refine X.then ?_
    refine T.cond_true rfl ?_
    refine T.seq ?_
    refine T.text [.l, .l] rfl ?_
    refine J.assign rfl rfl ?_
    refine J.assign rfl rfl ?_
    refine J.end ?_
    refine X.then ?_
    refine T.ret ?_
    refine X.then_ret ?_
    exact X.ret2 rfl (RV.tmp rfl) (RV.tmp rfl) (fun w' hw' => RowEPost.nil 1 ⟨by unfold rowR; rw [if_pos (by omega)], by unfold rowRe; rw [if_pos (by omega)]⟩ rfl hw')
  · skip
    refine J.yes rfl rfl ?_
    refine J.move rfl rfl ?_
    refine J.yes rfl rfl ?_
    refine J.gtr rfl rfl rfl rfl ?_
    refine J.pick_f rfl rfl rfl ?_
    refine J.end ?_
    refine X.then ?_
    refine T.cond_dec rfl (fun h2 => ?_) (fun h2 => ?_)
    · skip
      refine T.seq ?_
      refine T.text [.l, .l] rfl ?_
      refine J.assign rfl rfl ?_
      refine J.assign rfl rfl ?_
      refine J.end ?_
      refine X.then ?_
      refine T.ret ?_
      refine X.then_ret ?_
      exact X.ret2 rfl (RV.tmp rfl) (RV.tmp rfl) (fun w' hw' => RowEPost.nil 1 ⟨by unfold rowR; rw [if_pos (by omega)], by unfold rowRe; rw [if_pos (by omega)]⟩ rfl hw')
    · obtain ⟨m, rfl⟩ := Int.eq_ofNat_of_zero_le (show 0 ≤ n by omega)
      refine T.skip ?_
      refine X.then ?_
      refine T.seq ?_
      refine T.text [.l, .l, .l] rfl ?_
      refine J.move rfl rfl ?_
      refine J.makeSlice 19 rfl (q := m) (c0 := m) Try.underlying22 el5 rfl rfl (by first | rfl | omega) (by first | rfl | omega) (by omega) (by omega) (by unfold maxLen; omega) rfl (fun g19 hg19 => ?_)
      rw [zeros_nat]
      refine J.assign rfl rfl ?_
      refine J.end ?_
      refine X.then ?_
      refine T.seq ?_
      refine T.text [.l, .l, .l, .l, .l, .l, .l] rfl ?_
      refine J.loadN (k := .l) trivial 4 rfl rfl agg25 (wc x1) rfl rfl rfl ?_
      refine J.call0 (k := .l) trivial fok54 rfl rfl (fun w hw => Ra.Uint w _) ?_
      refine J.move rfl rfl ?_
      refine J.extract rfl rfl rfl ?_
      refine J.extract rfl rfl rfl ?_
      refine J.assign rfl rfl ?_
      refine J.assign rfl rfl ?_
      refine J.end ?_
      refine X.then ?_
      refine T.seq ?_
      refine T.seq ?_
      refine T.text [.l, .l, .l, .l, .l, .l, .l, .l, .l] rfl ?_
      refine J.move rfl rfl ?_
      refine J.not rfl rfl (by rw [← decide_not]) ?_
      refine J.move rfl rfl ?_
      refine J.split 27 rfl (fun h3 => ?_) (fun h3 => ?_)
      · have hbig := sizeN_big x1 (by omega)
        refine J.no rfl rfl rfl rfl ?_
        refine J.no rfl rfl rfl rfl ?_
        refine J.no rfl rfl rfl rfl ?_
        refine J.no rfl rfl rfl rfl ?_
        refine J.no rfl rfl rfl rfl ?_
        refine J.pick_t rfl rfl rfl ?_
        refine J.end ?_
        refine X.then ?_
        refine T.cond_true rfl ?_
        refine T.seq ?_
        refine T.text [.l, .l, .l] rfl ?_
        refine J.move rfl rfl ?_
        refine J.assign rfl rfl ?_
        refine J.assign rfl rfl ?_
        refine J.end ?_
        refine X.then ?_
        refine T.ret ?_
        refine X.then_ret ?_
        exact X.ret2 rfl (RV.tmp rfl) (RV.tmp rfl) (fun w' hw' => RowEPost.mk' (rowB xs0 x1 m) 0 ⟨by unfold rowR; rw [if_neg (by omega)]; rfl, by unfold rowRe; rw [if_neg (by omega)]⟩ ⟨some g19, m, []⟩ (by rw [rowB_length]; exact RowIx.blk_ok _ _ (by unfold maxLen; omega)) (by rw [rowB_length]; rfl) hw' 19 (by rw [rowB_far _ _ _ (by omega)]; simp [RowIx.ent]; rfl))
      · refine J.as 9 (.int .u64 ((x1 % 2 ^ 256 : Nat) : Int)) rfl (by rw [if_neg (by omega), lim_small _ (by omega)]) ?_
        refine J.yes rfl rfl ?_
        refine J.move rfl rfl ?_
        refine J.yes rfl rfl ?_
        refine J.move rfl rfl ?_
        refine J.yes rfl rfl ?_
        refine J.lenSl Try.underlying22 rfl rfl ?_
        refine J.yes rfl rfl ?_
        refine J.conv (by rw [Try.underlying3]; rfl) Try.underlying23 rfl rfl (by first | exact wrapu_nat' _ (by omega) | exact wrapu_nat _ | exact u64_wrap _) ?_
        refine J.yes rfl rfl ?_
        refine J.geq rfl rfl rfl rfl ?_
        refine J.pick_f rfl rfl rfl ?_
        refine J.end ?_
        refine X.then ?_
        refine T.cond_dec rfl (fun h4 => ?_) (fun h4 => ?_)
        · skip
          refine T.seq ?_
          refine T.text [.l, .l, .l] rfl ?_
          refine J.move rfl rfl ?_
          refine J.assign rfl rfl ?_
          refine J.assign rfl rfl ?_
          refine J.end ?_
          refine X.then ?_
          refine T.ret ?_
          refine X.then_ret ?_
          exact X.ret2 rfl (RV.tmp rfl) (RV.tmp rfl) (fun w' hw' => RowEPost.mk' (rowB xs0 x1 m) 0 ⟨by unfold rowR; rw [if_neg (by omega)]; rfl, by unfold rowRe; rw [if_neg (by omega)]⟩ ⟨some g19, m, []⟩ (by rw [rowB_length]; exact RowIx.blk_ok _ _ (by unfold maxLen; omega)) (by rw [rowB_length]; rfl) hw' 19 (by rw [rowB_far _ _ _ (by omega)]; simp [RowIx.ent]; rfl))
        · skip
          refine T.skip ?_
          refine X.then ?_
          refine T.seq ?_
          refine T.seq ?_
          refine T.text [.l] rfl ?_
          refine J.assign rfl rfl ?_
          refine J.end ?_
          refine X.then ?_
          refine T.block ?_
          refine T.loop (ι := Nat × List Nat) (fun ((i, ys) : Nat × List Nat) => i ≤ m ∧ ys.length = m ∧ ∀ q, ys.getD q 0 = if q < i then xs0.getD (x1 % 2 ^ 256 + q) 0 else 0) (fun ((i, ys) : Nat × List Nat) => [(0, .slice A0 xs0.length c0), (1, W x1), (2, .int .i64 (m : Int)), (4, .pointer (some ⟨g4, 0, none⟩)), (6, .slice none 0 0), (7, .int .i64 0), (12, .int .i64 (m : Int)), (14, .bool false), (15, .int .i64 (m : Int)), (18, .int .i64 (m : Int)), (19, .slice (hdOf (some g19)) m m), (8, .slice (hdOf (some g19)) m m), (21, W x1), (9, .int .u64 ((x1 % 2 ^ 256 : Nat) : Int)), (27, .bool false), (28, .int .u64 ((x1 % 2 ^ 256 : Nat) : Int)), (29, .slice A0 xs0.length c0), (30, .int .i64 ((xs0.length : Nat) : Int)), (11, .int .i64 (i : Int))]) (fun ((i, ys) : Nat × List Nat) => [(4, ⟨some g4, 25, (wc x1)⟩), (19, ⟨some g19, 5, rowN .u8 ys⟩)]) (fun ((i, ys) : Nat × List Nat) => m - i) ⟨0, (List.replicate m 0)⟩ ⟨Nat.zero_le _, List.length_replicate, fun q => by rw [if_neg (by omega)]; simp [List.getD, List.getElem?_replicate]; split <;> rfl⟩ (by repeat (first | exact Sub.nil _ | refine Sub.cons (by first | rfl | (rw [dgs_zero]; rfl) | (rw [List.drop_length]; rfl) | (simp; done) | (congr 2; omega) | (congr 3; omega)) ?_)) (by repeat (first | exact Sub.nil _ | refine Sub.cons (by first | rfl | (rw [dgs_zero]; rfl) | (rw [List.drop_length]; rfl) | (simp; done) | (congr 2; omega) | (congr 3; omega)) ?_)) ?_
          rintro ⟨i, ys⟩ ⟨hi, hl, hy⟩
          try dsimp only at *
          refine T.seq ?_
          refine T.seq ?_
          refine T.text [.l, .l, .l, .l, .l, .l, .l, .l, .l, .l, .l, .l] rfl ?_
          refine J.move rfl rfl ?_
          refine J.move rfl rfl ?_
          refine J.lss rfl rfl rfl rfl ?_
          refine J.move rfl rfl ?_
          refine J.split 38 rfl (fun h5 => ?_) (fun h5 => ?_)
          · skip
            refine J.yes rfl rfl ?_
            refine J.move rfl rfl ?_
            refine J.yes rfl rfl ?_
            refine J.conv (by rw [Try.underlying23]; rfl) Try.underlying3 rfl rfl (by first | exact wrap_nat64 _ (by omega) | exact i64_ok _ (by omega) | exact rfl) ?_
            refine J.yes rfl rfl ?_
            refine J.move rfl rfl ?_
            refine J.yes rfl rfl ?_
            refine J.add rfl rfl rfl (by first | exact add_nat _ _ (by omega) | exact i64_ok _ (by omega) | exact rfl) ?_
            refine J.yes rfl rfl ?_
            refine J.move rfl rfl ?_
            refine J.yes rfl rfl ?_
            refine J.lenSl Try.underlying22 rfl rfl ?_
            refine J.yes rfl rfl ?_
            refine J.lss rfl rfl rfl rfl ?_
            refine J.pick_t rfl rfl rfl ?_
            refine J.end ?_
            refine X.then ?_
            refine T.cond_dec rfl (fun h6 => ?_) (fun h6 => ?_)
            · skip
              refine T.skip ?_
              refine X.then ?_
              refine T.seq ?_
              refine T.block ?_
              refine T.text [.l, .l, .l, .l, .l, .l, .l, .l, .l, .l, .l] rfl ?_
              refine J.move rfl rfl ?_
              refine J.move rfl rfl ?_
              refine J.move rfl rfl ?_
              refine J.move rfl rfl ?_
              refine J.conv (by rw [Try.underlying23]; rfl) Try.underlying3 rfl rfl (by first | exact wrap_nat64 _ (by omega) | exact i64_ok _ (by omega) | exact rfl) ?_
              refine J.move rfl rfl ?_
              refine J.add rfl rfl rfl (by first | exact add_nat _ _ (by omega) | exact i64_ok _ (by omega) | exact rfl) ?_
              refine J.indexSlI sl22 rfl (Cs.isSomeN hc0 (by omega)) rfl (by omega) (by omega) (by first | exact Int.toNat_natCast _ | rfl) rfl ?_
              refine J.loadI1 (k := .l) trivial hc0 (off_nil _) rfl one5 (by first | rfl | with_reducible exact rowN_get1 _ _ _ (by omega) | with_reducible exact rowN_get _ _ _ (by omega) | exact rowN_get1 _ _ _ (by omega)) rfl ?_
              refine J.indexSlB sl22 rfl rfl (by omega) (by omega) (by first | exact Int.toNat_natCast _ | rfl) rfl ?_
              refine J.store 19 rfl rfl rfl rfl [.int .u8 ((xs0.getD (x1 % 2 ^ 256 + i) 0 : Nat) : Int)] rfl sz5 (by rw [rowN_length, hl]; show _ + 1 ≤ m; omega) (by first | exact rowN_one _ _ | (simp; done) | (intro u hu; simp at hu; subst hu; rfl) | (intro u hu; simp at hu; rcases hu with rfl | rfl <;> rfl)) (by first | decide | exact Nat.zero_lt_succ _ | simp) trivial (rowN .u8 (ys.set i (xs0.getD (x1 % 2 ^ 256 + i) 0))) (by rw [Nat.zero_add, Nat.mul_one]; exact putN' _ _ _ _ (by omega)) ?_
              refine J.end ?_
              refine X.inBlock (X.then ?_)
              refine T.text [.l, .l, .l] rfl ?_
              refine J.move rfl rfl ?_
              refine J.add rfl rfl rfl (by first | exact add_nat _ 1 (by omega) | exact i64_ok _ (by omega) | exact rfl) ?_
              refine J.assign rfl rfl ?_
              refine J.end ?_
              exact X.round ⟨(i + 1), (ys.set i (xs0.getD (x1 % 2 ^ 256 + i) 0))⟩ ⟨by omega, by simp [hl], fun q => by
                    rw [getD_set _ _ _ _ (by omega)]
                    split
                    · rename_i hiq; subst hiq; rw [if_pos (by omega)]
                    · rw [hy q]; split
                      · rw [if_pos (by omega)]
                      · rw [if_neg (by omega)]⟩ (by first | omega | (dsimp only; omega)) (by repeat (first | exact Sub.nil _ | refine Sub.cons (by first | rfl | (rw [dgs_zero]; rfl) | (rw [List.drop_length]; rfl) | (simp; done) | (congr 2; omega) | (congr 3; omega)) ?_)) (by repeat (first | exact Sub.nil _ | refine Sub.cons (by first | rfl | (rw [dgs_zero]; rfl) | (rw [List.drop_length]; rfl) | (simp; done) | (congr 2; omega) | (congr 3; omega)) ?_))
            · skip
              refine T.exit ?_
              refine X.then_exit (X.then_exit (X.inBlock_eq (X.then ?_)))
              refine T.seq ?_
              refine T.text [.l, .l, .l] rfl ?_
              refine J.move rfl rfl ?_
              refine J.assign rfl rfl ?_
              refine J.assign rfl rfl ?_
              refine J.end ?_
              refine X.then ?_
              refine T.ret ?_
              exact X.ret2 rfl (RV.tmp rfl) (RV.tmp rfl) (fun w' hw' => RowEPost.mk' (rowB xs0 x1 m) 0 ⟨by unfold rowR; rw [if_neg (by omega)]; rfl, by unfold rowRe; rw [if_neg (by omega)]⟩ ⟨some g19, m, []⟩ (by rw [rowB_length]; exact RowIx.blk_ok _ _ (by unfold maxLen; omega)) (by rw [rowB_length]; rfl) hw' 19 (by rw [← rowB_of (x := x1) (xs := xs0) hl (fun q hq => (by rw [hy q]; split; rfl; rw [getD_far _ _ (by omega)]))]; simp [RowIx.ent]; rfl))
          · skip
            refine J.no rfl rfl rfl rfl ?_
            refine J.no rfl rfl rfl rfl ?_
            refine J.no rfl rfl rfl rfl ?_
            refine J.no rfl rfl rfl rfl ?_
            refine J.no rfl rfl rfl rfl ?_
            refine J.no rfl rfl rfl rfl ?_
            refine J.no rfl rfl rfl rfl ?_
            refine J.pick_f rfl rfl rfl ?_
            refine J.end ?_
            refine X.then ?_
            refine T.cond_false rfl ?_
            refine T.exit ?_
            refine X.then_exit (X.then_exit (X.inBlock_eq (X.then ?_)))
            refine T.seq ?_
            refine T.text [.l, .l, .l] rfl ?_
            refine J.move rfl rfl ?_
            refine J.assign rfl rfl ?_
            refine J.assign rfl rfl ?_
            refine J.end ?_
            refine X.then ?_
            refine T.ret ?_
            exact X.ret2 rfl (RV.tmp rfl) (RV.tmp rfl) (fun w' hw' => RowEPost.mk' (rowB xs0 x1 m) 0 ⟨by unfold rowR; rw [if_neg (by omega)]; rfl, by unfold rowRe; rw [if_neg (by omega)]⟩ ⟨some g19, m, []⟩ (by rw [rowB_length]; exact RowIx.blk_ok _ _ (by unfold maxLen; omega)) (by rw [rowB_length]; rfl) hw' 19 (by rw [← rowB_of (x := x1) (xs := xs0) hl (fun q hq => (by rw [hy q]; split; rfl; rw [getD_far _ _ (by omega)]))]; simp [RowIx.ent]; rfl))
end Go.Proofs.Ytpkjbeebhdgleaa.Ma
