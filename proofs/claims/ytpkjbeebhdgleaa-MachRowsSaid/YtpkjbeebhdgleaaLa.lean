/-
  Walks, printed by gen.py: what each function hands back, said of numbers.
  Conditions: those that each theorem bears.
-/
import Derived.Test.YtpkjbeebhdgleaaChecked
import Derived.Test.YtpkjbeebhdgleaaMa
set_option linter.unusedVariables false
set_option maxRecDepth 20000
namespace Go.Proofs.Ytpkjbeebhdgleaa.La
open Go Go.Fw

theorem sz67 : SizeT Try.prog 67 32 := (by unfold SizeT; kernel_rfl)
theorem fok14 : FnOk Try.prog 14 := FnOk.mk' Try.func14 (by kernel_rfl) rfl
theorem agg25 : AggT Try.prog 25 4 := ⟨⟨_, Try.underlying25, rfl⟩, by kernel_rfl⟩
theorem fok15 : FnOk Try.prog 15 := FnOk.mk' Try.func15 (by kernel_rfl) rfl
theorem el5 : ElT Try.prog 5 1 1 (.int .u8 0) := ⟨by kernel_rfl, rfl, by decide, by decide⟩
theorem fok16 : FnOk Try.prog 16 := FnOk.mk' Try.func16 (by kernel_rfl) rfl
theorem fok17 : FnOk Try.prog 17 := FnOk.mk' Try.func17 (by kernel_rfl) rfl
theorem sz5 : SizeT Try.prog 5 1 := (by unfold SizeT; kernel_rfl)
theorem sl22 : SlT Try.prog 22 5 1 := ⟨Try.underlying22, sz5⟩
theorem one5 : OneT Try.prog 5 := ⟨⟨_, Try.underlying5, rfl⟩, by kernel_rfl⟩

set_option maxRecDepth 100000 in
set_option maxHeartbeats 1000000 in
theorem MachRows (w : World) (A0 : Option Addr) (c0 : Nat) (xs0 : List Nat) (hc0 : Cs w A0 (rowN .u8 xs0)) (hx0 : Dg xs0) (hb0 : xs0.length ≤ 9223372036854775807) (x1 : Nat) (n : Int) (hn : -9223372036854775808 ≤ n ∧ n ≤ 9223372036854775807) :
    Calls Try.prog 3 [.slice A0 xs0.length c0, W x1, .int .i64 n].toArray w fun e w' => e = .returned (.bool true) ∧ WS w [] [] w' := by
  refine calls_of_T [] 109 [] Try.func3 rfl Try.ntmps3 (by simp) (WS.refl _ _) ?_
  refine T.seq ?_
  refine T.text [.l, .l] rfl ?_
  refine J.box 4 rfl rfl (wc x1) rfl rfl (fun g4 hg4 => ?_)
  refine J.assign rfl rfl ?_
  refine J.end ?_
  refine X.then ?_
  refine T.seq ?_
  refine T.text [.l, .l, .l] rfl ?_
  refine J.move rfl rfl ?_
  refine J.callLaid 16 rfl (t := 5) fok14 rfl rfl (fun w hw => Ma.laid w _ _ _ (hc0.ws hw (off_nil _)) (by first | assumption | omega)) (fun r16 hr16 => ?_)
  have hDk : Dg (xs0.take 70000) := hx0.take _
  have hKl : (xs0.take 70000).length ≤ 70000 := by rw [List.length_take]; omega
  have hKc := hr16.le
  refine J.assign rfl rfl ?_
  refine J.end ?_
  refine X.then ?_
  refine T.seq ?_
  refine T.text [.l, .l, .l, .l, .l, .l, .l, .l, .l] rfl ?_
  refine J.move rfl rfl ?_
  refine J.loadN (k := .l) trivial 4 rfl rfl agg25 (wc x1) rfl rfl rfl ?_
  refine J.move rfl rfl ?_
  refine J.callRowE 21 rfl (t := 5) (kd := .u8) fok15 rfl rfl (fun w hw => Ma.Row w _ _ _ (hw.laidCs (k := 16) rfl) (by assumption) (by omega) (by omega) _ _ (by omega)) (fun zs21 n21 r21 hz21 hr21 => ?_)
  obtain ⟨hz21, he21⟩ := hz21
  have hD21 : Dg zs21 := by rw [hz21]; exact rowR_dg (by assumption) _ _
  refine J.move rfl rfl ?_
  refine J.extract rfl rfl rfl ?_
  refine J.extract rfl rfl rfl ?_
  refine J.assign rfl rfl ?_
  refine J.assign rfl rfl ?_
  refine J.end ?_
  refine X.then ?_
  refine T.seq ?_
  refine T.draw [(4, ⟨some g4, 25, (wc x1)⟩)] [(1, .g), (3, .s), (4, .g), (0, .l), (2, .l), (5, .l), (6, .g), (7, .g), (8, .g), (9, .g), (10, .g)] (by kernel_rfl) (by kernel_rfl) ?_ rfl (by repeat (first | exact Sub.nil _ | refine Sub.cons (by first | rfl | (rw [List.length_set]; rfl)| (rw [dgs_zero]; rfl) | (rw [List.drop_length]; rfl) | (simp; done) | (congr 2; omega) | (congr 3; omega)) ?_))
  refine J.move rfl rfl ?_
  refine J.loadNs 4 rfl rfl agg25 (wc x1) rfl rfl rfl ?_
  refine J.move rfl rfl ?_
  refine J.buildSlice 25 rfl (e := 5) rfl rfl [] (fun w => by kernel_rfl) (fun g25 hg25 => ?_)
  refine J.append (i := ⟨some g25, 0, []⟩) (cs := []) 25 rfl Try.underlying22 el5 rfl (RowIx.blk_ok' g25 0 1 (Nat.zero_le _)) rfl rfl rfl (by rw [rowN_length, Nat.mul_one]) (fun w hw => (hw.laidCs (k := 16) rfl)) (rowN_one _ _) (by omega) (by unfold maxLen; omega) rfl (xs0.take 70000).length (Nat.zero_add _) (rowN .u8 (xs0.take 70000)) rfl (fun r27 hr27 => ?_)
  have hc27 := hr27.le
  refine J.callRowE 30 rfl (t := 5) (kd := .u8) fok16 rfl rfl (fun w hw => Ma.rRow w _ _ _ (hw.rowCs (k := 25) rfl) (by assumption) (by omega) (by omega) _ _ (by omega)) (fun zs30 n30 r30 hz30 hr30 => ?_)
  obtain ⟨hz30, he30⟩ := hz30
  have hD30 : Dg zs30 := by rw [hz30]; exact rowR_dg (by assumption) _ _
  refine J.move rfl rfl ?_
  refine J.extract rfl rfl rfl ?_
  refine J.extract rfl rfl rfl ?_
  refine J.assign rfl rfl ?_
  refine J.assign rfl rfl ?_
  refine J.end ?_
  refine X.then ?_
  refine T.seq ?_
  refine T.seq ?_
  refine T.text [.l, .l, .l, .l, .l, .l, .l, .l, .l, .l, .l, .l, .l, .l, .l, .l] rfl ?_
  refine J.move rfl rfl ?_
  refine J.move rfl rfl ?_
  refine J.neq rfl rfl rfl (decide_eq_false (fun h => h (by rw [he21, he30]))) ?_
  refine J.move rfl rfl ?_
  refine J.yes rfl rfl ?_
  refine J.move rfl rfl ?_
  refine J.yes rfl rfl ?_
  refine J.convBS (k := .l) trivial Try.underlying22 Try.underlying5 Try.underlying9 rfl (_) (by first | rfl | omega) (fun w hw => (hw.rowCs (k := 21) rfl)) rfl ?_
  refine J.yes rfl rfl ?_
  refine J.move rfl rfl ?_
  refine J.yes rfl rfl ?_
  refine J.convBS (k := .l) trivial Try.underlying22 Try.underlying5 Try.underlying9 rfl (_) (by first | rfl | omega) (fun w hw => (hw.rowCs (k := 30) rfl)) rfl ?_
  refine J.yes rfl rfl ?_
  refine J.neqStr rfl rfl rfl hD21 hD30 ?_
  refine J.as 41 (.bool false) rfl (by rw [decide_eq_false (fun h => h (by rw [hz21, hz30]))]) ?_
  refine J.pick_f rfl rfl rfl ?_
  refine J.move rfl rfl ?_
  refine J.yes rfl rfl ?_
  refine J.move rfl rfl ?_
  refine J.yes rfl rfl ?_
  refine J.move rfl rfl ?_
  refine J.yes rfl rfl ?_
  refine J.call0 (k := .l) trivial fok17 rfl rfl (fun w hw => Ma.stands w _ _ _ (hw.rowCs (k := 16) rfl) _ _ _ (hc0.ws hw (off_nil _)) rfl (by omega)) ?_
  refine J.yes rfl rfl ?_
  refine J.not rfl rfl rfl ?_
  refine J.pick_f rfl rfl rfl ?_
  refine J.end ?_
  refine X.then ?_
  refine T.cond_false rfl ?_
  refine T.skip ?_
  refine X.then ?_
  refine T.seq ?_
  refine T.seq ?_
  refine T.text [.l] rfl ?_
  refine J.assign rfl rfl ?_
  refine J.end ?_
  refine X.then ?_
  refine T.block ?_
  refine T.loop (ι := Nat × List Nat) (fun ((i, zs) : Nat × List Nat) => i ≤ zs.length ∧ zs.length = (xs0.take 70000).length ∧ Dg zs) (fun ((i, zs) : Nat × List Nat) => [(0, .slice A0 xs0.length c0), (1, W x1), (2, .int .i64 n), (4, .pointer (some ⟨g4, 0, none⟩)), (6, .bool false), (8, r21.val zs21.length), (9, .int .i64 (n21 : Int)), (10, r30.val zs30.length), (11, .int .i64 (n30 : Int)), (7, .slice (hdOf r16.id) zs.length r16.cap), (12, .int .i64 (i : Int))]) (fun ((i, zs) : Nat × List Nat) => [(4, ⟨some g4, 25, (wc x1)⟩), (16, r16.ent 5 (rowN .u8 (zs ++ marks 75)))]) (fun ((i, zs) : Nat × List Nat) => zs.length - i) ⟨0, (xs0.take 70000)⟩ ⟨Nat.zero_le _, rfl, hDk⟩ (by repeat (first | exact Sub.nil _ | refine Sub.cons (by first | rfl | (rw [List.length_set]; rfl)| (rw [dgs_zero]; rfl) | (rw [List.drop_length]; rfl) | (simp; done) | (congr 2; omega) | (congr 3; omega)) ?_)) (by repeat (first | exact Sub.nil _ | refine Sub.cons (by first | rfl | (rw [List.length_set]; rfl)| (rw [dgs_zero]; rfl) | (rw [List.drop_length]; rfl) | (simp; done) | (congr 2; omega) | (congr 3; omega)) ?_)) ?_
  rintro ⟨i, zs⟩ ⟨hi, hzl, hzD⟩
  try dsimp only at *
  have hzm : (zs ++ marks 75).length = zs.length + 75 := by rw [List.length_append, marks_length]
  have hzd := (hzD.append (marks_dg 75)).getD i
  refine T.seq ?_
  refine T.seq ?_
  refine T.text [.l, .l, .l, .l] rfl ?_
  refine J.move rfl rfl ?_
  refine J.move rfl rfl ?_
  refine J.lenSl Try.underlying22 rfl rfl ?_
  refine J.lss rfl rfl rfl rfl ?_
  refine J.end ?_
  refine X.then ?_
  refine T.cond_dec rfl (fun h1 => ?_) (fun h1 => ?_)
  · skip
    refine T.skip ?_
    refine X.then ?_
    refine T.seq ?_
    refine T.block ?_
    refine T.text [.l, .l, .l, .l, .l, .l, .l, .l, .l, .l, .l, .l] rfl ?_
    refine J.move rfl rfl ?_
    refine J.move rfl rfl ?_
    refine J.move rfl rfl ?_
    refine J.move rfl rfl ?_
    refine J.indexRow sl22 rfl (hr16.some (by omega)) rfl (by omega) (by omega) (by first | exact Int.toNat_natCast _ | rfl) rfl ?_
    refine J.load1 (k := .l) trivial 16 rfl rfl one5 (by first | rfl | with_reducible exact rowN_get0 _ _ _ (by omega) | with_reducible exact rowN_get1 _ _ _ (by omega) | with_reducible exact rowN_get1s _ _ _ _ (by omega) | exact rowN_get1 _ _ _ (by omega) | exact rowN_get1s _ _ _ _ (by omega) | exact rowN_get0 _ _ _ (by omega)) rfl ?_
    refine J.move rfl rfl ?_
    refine J.add rfl rfl rfl (by first | exact add_nat 9 _ (by omega) | exact i64_ok _ (by omega) | exact rfl) ?_
    refine J.conv (by rw [Try.underlying3]; rfl) Try.underlying5 rfl rfl (by exact wrap8_nat _) ?_
    refine J.bxor rfl rfl rfl (by exact xor_nat8 _ _ ⟨hzd, Nat.mod_lt _ (by omega)⟩) ?_
    refine J.indexRow sl22 rfl (hr16.some (by omega)) rfl (by omega) (by omega) (by first | exact Int.toNat_natCast _ | rfl) rfl ?_
    refine J.store 16 rfl rfl rfl rfl [.int .u8 (((zs ++ marks 75).getD i 0 ^^^ (9 + i) % 256) : Nat)] rfl sz5 (by show _ ≤ (rowN .u8 (zs ++ marks 75) ++ r16.sp).length; rw [List.length_append, rowN_length]; show _ + 1 ≤ _; omega) (by first | exact rowN_one _ _ | (simp; done) | (intro u hu; simp at hu; subst hu; rfl)) (by first | decide | exact Nat.zero_lt_succ _ | simp) trivial (rowN .u8 (zs.set i ((zs ++ marks 75).getD i 0 ^^^ (9 + i) % 256) ++ marks 75) ++ r16.sp) (by rw [Nat.mul_one]; refine (putN _ _ _ _ _ (by omega)).trans ?_; rw [List.set_append_left _ _ (by omega)]) ?_
    refine J.end ?_
    refine X.inBlock (X.then ?_)
    refine T.text [.l, .l, .l] rfl ?_
    refine J.move rfl rfl ?_
    refine J.add rfl rfl rfl (by first | exact add_nat _ 1 (by omega) | exact i64_ok _ (by omega) | exact rfl) ?_
    refine J.assign rfl rfl ?_
    refine J.end ?_
    exact X.round ⟨(i + 1), (zs.set i ((zs ++ marks 75).getD i 0 ^^^ (9 + i) % 256))⟩ ⟨by rw [List.length_set]; omega, by rw [List.length_set]; exact hzl, hzD.set i (xor_lt8 _ _ ⟨hzd, Nat.mod_lt _ (by omega)⟩)⟩ (by rw [List.length_set]; omega) (by repeat (first | exact Sub.nil _ | refine Sub.cons (by first | rfl | (rw [List.length_set]; rfl)| (rw [dgs_zero]; rfl) | (rw [List.drop_length]; rfl) | (simp; done) | (congr 2; omega) | (congr 3; omega)) ?_)) (by repeat (first | exact Sub.nil _ | refine Sub.cons (by first | rfl | (rw [List.length_set]; rfl)| (rw [dgs_zero]; rfl) | (rw [List.drop_length]; rfl) | (simp; done) | (congr 2; omega) | (congr 3; omega)) ?_))
  · skip
    refine T.exit ?_
    refine X.then_exit (X.then_exit (X.inBlock_eq (X.then ?_)))
    refine T.seq ?_
    refine T.text [.l, .l, .l, .l, .l, .l, .l, .l, .l] rfl ?_
    refine J.move rfl rfl ?_
    refine J.loadN (k := .l) trivial 4 rfl rfl agg25 (wc x1) rfl rfl rfl ?_
    refine J.move rfl rfl ?_
    refine J.callRowE 70 rfl (t := 5) (kd := .u8) fok15 rfl rfl (fun w hw => Ma.Row w _ _ _ (hw.laidCs (k := 16) rfl) (by assumption) (by omega) (by omega) _ _ (by omega)) (fun zs70 n70 r70 hz70 hr70 => ?_)
    obtain ⟨hz70, he70⟩ := hz70
    have hD70 : Dg zs70 := by rw [hz70]; exact rowR_dg (by assumption) _ _
    refine J.move rfl rfl ?_
    refine J.extract rfl rfl rfl ?_
    refine J.extract rfl rfl rfl ?_
    refine J.assign rfl rfl ?_
    refine J.assign rfl rfl ?_
    refine J.end ?_
    refine X.then ?_
    refine T.seq ?_
    refine T.draw [(4, ⟨some g4, 25, (wc x1)⟩)] [(1, .g), (3, .s), (4, .g), (0, .l), (2, .l), (5, .l), (6, .g), (7, .g), (8, .g), (9, .g), (10, .g)] (by kernel_rfl) (by kernel_rfl) ?_ rfl (by repeat (first | exact Sub.nil _ | refine Sub.cons (by first | rfl | (rw [List.length_set]; rfl)| (rw [dgs_zero]; rfl) | (rw [List.drop_length]; rfl) | (simp; done) | (congr 2; omega) | (congr 3; omega)) ?_))
    refine J.move rfl rfl ?_
    refine J.loadNs 4 rfl rfl agg25 (wc x1) rfl rfl rfl ?_
    refine J.move rfl rfl ?_
    refine J.buildSlice 74 rfl (e := 5) rfl rfl [] (fun w => by kernel_rfl) (fun g74 hg74 => ?_)
    refine J.append (i := ⟨some g74, 0, []⟩) (cs := []) 74 rfl Try.underlying22 el5 rfl (RowIx.blk_ok' g74 0 1 (Nat.zero_le _)) rfl rfl rfl (by rw [rowN_length, Nat.mul_one]) (fun w hw => (hw.laidCs (k := 16) rfl)) (rowN_one _ _) (by omega) (by unfold maxLen; omega) rfl zs.length (Nat.zero_add _) (rowN .u8 zs) rfl (fun r76 hr76 => ?_)
    have hc76 := hr76.le
    refine J.callRowE 79 rfl (t := 5) (kd := .u8) fok16 rfl rfl (fun w hw => Ma.rRow w _ _ _ (hw.rowCs (k := 74) rfl) (by assumption) (by omega) (by omega) _ _ (by omega)) (fun zs79 n79 r79 hz79 hr79 => ?_)
    obtain ⟨hz79, he79⟩ := hz79
    have hD79 : Dg zs79 := by rw [hz79]; exact rowR_dg (by assumption) _ _
    refine J.move rfl rfl ?_
    refine J.extract rfl rfl rfl ?_
    refine J.extract rfl rfl rfl ?_
    refine J.assign rfl rfl ?_
    refine J.assign rfl rfl ?_
    refine J.end ?_
    refine X.then ?_
    refine T.seq ?_
    refine T.text [.l, .l, .l, .l, .l, .l, .l, .l] rfl ?_
    refine J.buildSlice 83 rfl (e := 5) rfl rfl (rowN .u8 [1, 2]) (fun w => by kernel_rfl) (fun g83 hg83 => ?_)
    refine J.build rfl rfl (W 1) (fun w => by kernel_rfl) ?_
    refine J.callRowE 85 rfl (t := 5) (kd := .u8) fok15 rfl rfl (fun w hw => Ma.Row w _ _ [1, 2] (hw.blkCs (k := 83) rfl) (by intro x hx; simp at hx; omega) (by decide) (by decide) _ _ (by omega)) (fun zs85 n85 r85 hz85 hr85 => ?_)
    obtain ⟨hz85, he85⟩ := hz85
    have hz85' : zs85 = [2, 0] := hz85.trans (by decide +kernel)
    have hD85 : Dg zs85 := by rw [hz85']; intro x hx; simp at hx; omega
    have hD20 : Dg [2, 0] := by intro x hx; simp at hx; omega
    refine J.move rfl rfl ?_
    refine J.extract rfl rfl rfl ?_
    refine J.extract rfl rfl rfl ?_
    refine J.assign rfl rfl ?_
    refine J.assign rfl rfl ?_
    refine J.end ?_
    refine X.then ?_
    refine T.seq ?_
    refine T.text [.l, .l, .l, .l, .l, .l, .l, .l, .l, .l, .l, .l, .l, .l, .l, .l, .l, .l, .l, .l, .l, .l] rfl ?_
    refine J.move rfl rfl ?_
    refine J.move rfl rfl ?_
    refine J.eql rfl rfl rfl (decide_eq_true (by rw [he70, he79])) ?_
    refine J.move rfl rfl ?_
    refine J.yes rfl rfl ?_
    refine J.move rfl rfl ?_
    refine J.yes rfl rfl ?_
    refine J.convBS (k := .l) trivial Try.underlying22 Try.underlying5 Try.underlying9 rfl (_) (by first | rfl | omega) (fun w hw => (hw.rowCs (k := 70) rfl)) rfl ?_
    refine J.yes rfl rfl ?_
    refine J.move rfl rfl ?_
    refine J.yes rfl rfl ?_
    refine J.convBS (k := .l) trivial Try.underlying22 Try.underlying5 Try.underlying9 rfl (_) (by first | rfl | omega) (fun w hw => (hw.rowCs (k := 79) rfl)) rfl ?_
    refine J.yes rfl rfl ?_
    refine J.eqStr rfl rfl rfl hD70 hD79 ?_
    refine J.as 96 (.bool true) rfl (by rw [decide_eq_true (by rw [hz70, hz79])]) ?_
    refine J.pick_t rfl rfl rfl ?_
    refine J.move rfl rfl ?_
    refine J.yes rfl rfl ?_
    refine J.move rfl rfl ?_
    refine J.yes rfl rfl ?_
    refine J.eql rfl rfl rfl (decide_eq_true (by rw [he85]; decide)) ?_
    refine J.pick_t rfl rfl rfl ?_
    refine J.move rfl rfl ?_
    refine J.yes rfl rfl ?_
    refine J.move rfl rfl ?_
    refine J.yes rfl rfl ?_
    refine J.convBS (k := .l) trivial Try.underlying22 Try.underlying5 Try.underlying9 rfl (_) (by first | rfl | omega) (fun w hw => (hw.rowCs (k := 85) rfl)) rfl ?_
    refine J.yes rfl rfl ?_
    refine J.buildSlice 105 rfl (e := 5) rfl rfl (rowN .u8 [2, 0]) (fun w => by kernel_rfl) (fun g105 hg105 => ?_)
    refine J.yes rfl rfl ?_
    refine J.convBS (k := .l) trivial Try.underlying22 Try.underlying5 Try.underlying9 rfl ([2, 0]) (by first | rfl | omega) (fun w hw => (hw.blkCs (k := 105) rfl)) rfl ?_
    refine J.yes rfl rfl ?_
    refine J.eqStr rfl rfl rfl hD85 hD20 ?_
    refine J.as 107 (.bool true) rfl (by rw [decide_eq_true hz85']) ?_
    refine J.pick_t rfl rfl rfl ?_
    refine J.assign rfl rfl ?_
    refine J.end ?_
    refine X.then ?_
    refine T.ret ?_
    exact X.ret1 rfl (RV.tmp rfl) (fun w' hw' => ⟨rfl, hw'.sub (Sub.nil _)⟩)
end Go.Proofs.Ytpkjbeebhdgleaa.La
