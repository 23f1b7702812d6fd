/-
  Walks, printed by gen.py: what each function hands back, said of numbers.
  Conditions: those that each theorem bears.
-/
import Derived.Test.YtpkjbeebhdgleaaChecked
import Derived.Test.YtpkjbeebhdgleaaPg
import Derived.Test.YtpkjbeebhdgleaaFr
set_option linter.unusedVariables false
set_option maxRecDepth 20000
namespace Go.Proofs.Ytpkjbeebhdgleaa.Lg
open Go Go.Fw

theorem sz67 : SizeT Try.prog 67 32 := (by unfold SizeT; kernel_rfl)
theorem fok40 : FnOk Try.prog 40 := FnOk.mk' Try.func40 (by kernel_rfl) rfl
theorem fok41 : FnOk Try.prog 41 := FnOk.mk' Try.func41 (by kernel_rfl) rfl
theorem fok37 : FnOk Try.prog 37 := FnOk.mk' Try.func37 (by kernel_rfl) rfl
theorem fok46 : FnOk Try.prog 46 := FnOk.mk' Try.func46 (by kernel_rfl) rfl
theorem fok47 : FnOk Try.prog 47 := FnOk.mk' Try.func47 (by kernel_rfl) rfl
theorem fok45 : FnOk Try.prog 45 := FnOk.mk' Try.func45 (by kernel_rfl) rfl
theorem fok48 : FnOk Try.prog 48 := FnOk.mk' Try.func48 (by kernel_rfl) rfl
theorem zero25 : ZeroT Try.prog 25 (.agg ([.int .u64 0, .int .u64 0, .int .u64 0, .int .u64 0]).toArray) := (by unfold ZeroT; kernel_rfl)
theorem sz25 : SizeT Try.prog 25 4 := (by unfold SizeT; kernel_rfl)
theorem agg25 : AggT Try.prog 25 4 := ⟨⟨_, Try.underlying25, rfl⟩, by kernel_rfl⟩
theorem fok43 : FnOk Try.prog 43 := FnOk.mk' Try.func43 (by kernel_rfl) rfl
theorem sz23 : SizeT Try.prog 23 1 := (by unfold SizeT; kernel_rfl)
theorem arr25 : ArrT Try.prog 25 4 23 1 := ⟨Try.underlying25, sz23⟩
theorem one23 : OneT Try.prog 23 := ⟨⟨_, Try.underlying23, rfl⟩, by kernel_rfl⟩
theorem eqw25 : EqT Try.prog 25 := ⟨⟨23, arr25, one23, Try.underlying23⟩, by kernel_rfl⟩
theorem fok39 : FnOk Try.prog 39 := FnOk.mk' Try.func39 (by kernel_rfl) rfl
theorem fok49 : FnOk Try.prog 49 := FnOk.mk' Try.func49 (by kernel_rfl) rfl

set_option maxRecDepth 100000 in
set_option maxHeartbeats 1000000 in
theorem MachPieces (w : World) (n0 : Int) (hn0 : -9223372036854775808 ≤ n0 ∧ n0 ≤ 9223372036854775807) (a : Int) (ha : -9223372036854775808 ≤ a ∧ a ≤ 9223372036854775807) (n : Int) (hn : -9223372036854775808 ≤ n ∧ n ≤ 9223372036854775807) (x : Nat) :
    Calls Try.prog 10 [.int .i64 n0, .int .i64 a, .int .i64 n, W x].toArray w fun e w' => e = .returned (.bool true) ∧ WS w [] [] w' := by
  refine calls_of_T [] 194 [] Try.func10 rfl Try.ntmps10 (by simp) (WS.refl _ _) ?_
  refine T.seq ?_
  refine T.text [.l, .l] rfl ?_
  refine J.box 7 rfl rfl (wc x) rfl rfl (fun g7 hg7 => ?_)
  refine J.assign rfl rfl ?_
  refine J.end ?_
  refine X.then ?_
  refine T.seq ?_
  refine T.text [.l, .l, .l] rfl ?_
  refine J.move rfl rfl ?_
  refine J.band rfl rfl rfl (and8191 _) ?_
  obtain ⟨z, hz⟩ : ∃ z : Nat, n0 % 8192 = (z : Int) := ⟨(n0 % 8192).toNat, by omega⟩
  refine J.as 24 (.int .i64 (z : Int)) rfl (by rw [hz]) ?_
  refine J.assign rfl rfl ?_
  refine J.end ?_
  refine X.then ?_
  refine T.seq ?_
  refine T.text [.l, .l] rfl ?_
  refine J.callNew 25 rfl (t := 99) (cs := [.slice none 0 0]) fok40 rfl rfl (fun w hw => Me.NewMemory w) (fun g25 hg25 => ?_)
  refine J.assign rfl rfl ?_
  refine J.end ?_
  refine X.addNil 26 5 ?_
  refine X.then ?_
  refine T.seq ?_
  refine T.seq ?_
  refine T.text [.l, .l, .l, .l, .l, .l, .l, .l, .l, .l, .l, .l, .l, .l, .l, .l, .l, .l, .l, .l, .l, .l, .l, .l, .l, .l, .l] rfl ?_
  refine J.move rfl rfl ?_
  refine J.eqNil (by kernel_rfl) rfl rfl rfl rfl ?_
  refine J.move rfl rfl ?_
  refine J.yes rfl rfl ?_
  refine J.move rfl rfl ?_
  refine J.yes rfl rfl ?_
  refine J.move rfl rfl ?_
  refine J.yes rfl rfl ?_
  refine J.callMem 25 26 (by decide) (g := g25) (i := RowIx.nil) (bs := []) (bs' := growB [] (z : Int)) rfl rfl rfl rfl fok41 rfl rfl (fun w hw => Me.Grow w g25 RowIx.nil [] MOk.nil (hw.memAt 25 26 rfl rfl (by decide)) _ (by omega)) (fun i31 hm31 => ?_)
  have hgE := growE_ok (u := (z : Int)) (by omega)
  have hgz := grow_zero (z := z) (by omega)
  obtain ⟨L, hL⟩ : ∃ L, (z + 31) / 32 * 32 = L := ⟨_, rfl⟩
  rw [hgz, hL] at hm31 ⊢
  have hll : (List.replicate L 0).length = L := List.length_replicate
  refine J.as 31 (.int .i64 0) rfl (by rw [hgE]; rfl) ?_
  refine J.yes rfl rfl ?_
  refine J.neq rfl rfl rfl (decide_eq_false (by first | omega | rfl | assumption | (simp only [*]; done))) ?_
  refine J.pick_f rfl rfl rfl ?_
  refine J.move rfl rfl ?_
  refine J.yes rfl rfl ?_
  refine J.move rfl rfl ?_
  refine J.yes rfl rfl ?_
  refine J.call0 (k := .l) trivial fok37 rfl rfl (fun w hw => Me.Len w g25 i31 (List.replicate L 0) hm31 (hw.memAt 25 26 rfl rfl (by decide))) ?_
  refine J.yes rfl rfl ?_
  refine J.move rfl rfl ?_
  refine J.yes rfl rfl ?_
  refine J.lss rfl rfl rfl (decide_eq_false (by first | omega | rfl | assumption | (simp only [*]; done))) ?_
  refine J.pick_f rfl rfl rfl ?_
  refine J.move rfl rfl ?_
  refine J.yes rfl rfl ?_
  refine J.move rfl rfl ?_
  refine J.yes rfl rfl ?_
  refine J.call0 (k := .l) trivial fok37 rfl rfl (fun w hw => Me.Len w g25 i31 (List.replicate L 0) hm31 (hw.memAt 25 26 rfl rfl (by decide))) ?_
  refine J.yes rfl rfl ?_
  refine J.move rfl rfl ?_
  refine J.yes rfl rfl ?_
  refine J.add rfl rfl rfl (by first | exact add_nat _ 31 (by omega) | exact i64_ok _ (by omega) | exact rfl) ?_
  refine J.yes rfl rfl ?_
  refine J.gtr rfl rfl rfl (decide_eq_false (by first | omega | rfl | assumption | (simp only [*]; done))) ?_
  refine J.pick_f rfl rfl rfl ?_
  refine J.move rfl rfl ?_
  refine J.yes rfl rfl ?_
  refine J.move rfl rfl ?_
  refine J.yes rfl rfl ?_
  refine J.call0 (k := .l) trivial fok37 rfl rfl (fun w hw => Me.Len w g25 i31 (List.replicate L 0) hm31 (hw.memAt 25 26 rfl rfl (by decide))) ?_
  refine J.yes rfl rfl ?_
  refine J.rem rfl rfl rfl (by omega) (by first | exact rem_nat _ 32 | exact rem_ok _ _ (by omega) | exact rfl) ?_
  refine J.yes rfl rfl ?_
  refine J.neq rfl rfl rfl (decide_eq_false (by first | omega | rfl | assumption | (simp only [*]; done))) ?_
  refine J.pick_f rfl rfl rfl ?_
  refine J.end ?_
  refine X.then ?_
  refine T.cond_false rfl ?_
  refine T.skip ?_
  refine X.then ?_
  refine T.seq ?_
  refine T.text [.l, .l, .l] rfl ?_
  refine J.move rfl rfl ?_
  refine J.call0 (k := .l) trivial fok37 rfl rfl (fun w hw => Me.Len w g25 i31 (List.replicate L 0) hm31 (hw.memAt 25 26 rfl rfl (by decide))) ?_
  refine J.as 54 (.int .i64 (L : Int)) rfl (by rw [hll]) ?_
  refine J.assign rfl rfl ?_
  refine J.end ?_
  refine X.then ?_
  refine T.seq ?_
  refine T.text [.l] rfl ?_
  refine J.assign rfl rfl ?_
  refine J.end ?_
  refine X.then ?_
  refine T.meet (ι := Nat) (fun (v : Nat) => (v = 92 ∨ v = 0) ∧ (0 ≤ n → (v = 92 ∧ n ≠ 0 ∧ (n > L ∨ a > L - n)) ∨ (v = 0 ∧ ¬ (n ≠ 0 ∧ (n > L ∨ a > L - n))))) (fun (v : Nat) => [(0, .int .i64 (z : Int)), (1, .int .i64 a), (2, .int .i64 n), (3, W x), (7, .pointer (some ⟨g7, 0, none⟩)), (8, .bool false), (23, .int .i64 n0), (24, .int .i64 (z : Int)), (25, .pointer (some ⟨g25, 0, none⟩)), (9, .pointer (some ⟨g25, 0, none⟩)), (26, .pointer (some ⟨g25, 0, none⟩)), (27, .bool false), (28, .bool false), (29, .pointer (some ⟨g25, 0, none⟩)), (30, .int .i64 (z : Int)), (31, .int .i64 0), (32, .bool false), (33, .bool false), (34, .bool false), (35, .pointer (some ⟨g25, 0, none⟩)), (36, .int .i64 (((List.replicate L 0).length : Nat) : Int)), (37, .int .i64 (z : Int)), (38, .bool false), (39, .bool false), (40, .bool false), (41, .pointer (some ⟨g25, 0, none⟩)), (42, .int .i64 (((List.replicate L 0).length : Nat) : Int)), (43, .int .i64 (z : Int)), (45, .bool false), (46, .bool false), (47, .bool false), (48, .pointer (some ⟨g25, 0, none⟩)), (49, .int .i64 (((List.replicate L 0).length : Nat) : Int)), (51, .bool false), (52, .bool false), (53, .pointer (some ⟨g25, 0, none⟩)), (54, .int .i64 (L : Int)), (10, .int .i64 (L : Int)), (11, .int .i64 (v : Int))]) (fun (v : Nat) => [(7, ⟨some g7, 25, (wc x)⟩), (25, ⟨some g25, 99, [i31.val (List.replicate L 0).length]⟩), (26, i31.ent 5 (rowN .u8 (List.replicate L 0)))]) ?_ ?_
  · -- up to where the ways meet
    refine T.seq ?_
    refine T.text [.l, .l, .l, .l, .l, .l, .l, .l, .l, .l, .l, .l, .l, .l] rfl ?_
    refine J.move rfl rfl ?_
    refine J.neq rfl rfl rfl rfl ?_
    refine J.move rfl rfl ?_
    refine J.split 57 rfl (fun h1 => ?_) (fun h1 => ?_)
    · skip
      refine J.yes rfl rfl ?_
      refine J.move rfl rfl ?_
      refine J.yes rfl rfl ?_
      refine J.move rfl rfl ?_
      refine J.yes rfl rfl ?_
      refine J.gtr rfl rfl rfl rfl ?_
      refine J.yes rfl rfl ?_
      refine J.move rfl rfl ?_
      refine J.split 61 rfl (fun h2 => ?_) (fun h2 => ?_)
      · skip
        refine J.no rfl rfl rfl rfl ?_
        refine J.no rfl rfl rfl rfl ?_
        refine J.no rfl rfl rfl rfl ?_
        refine J.no rfl rfl rfl rfl ?_
        refine J.no rfl rfl rfl rfl ?_
        refine J.yes rfl rfl ?_
        refine J.pick_t rfl rfl rfl ?_
        refine J.pick_t rfl rfl rfl ?_
        refine J.end ?_
        refine X.then ?_
        refine T.cond_true rfl ?_
        refine T.text [.l] rfl ?_
        refine J.assign rfl rfl ?_
        refine J.end ?_
        exact X.at 92 (by omega) (by repeat (first | exact Sub.nil _ | refine Sub.cons (by first | rfl | (rw [dgs_zero]; rfl) | (rw [List.drop_length]; rfl) | (simp; done) | (congr 2; omega) | (congr 3; omega)) ?_)) (by repeat (first | exact Sub.nil _ | refine Sub.cons (by first | rfl | (rw [dgs_zero]; rfl) | (rw [List.drop_length]; rfl) | (simp; done) | (congr 2; omega) | (congr 3; omega)) ?_))
      · skip
        refine J.yes rfl rfl ?_
        refine J.move rfl rfl ?_
        refine J.yes rfl rfl ?_
        refine J.move rfl rfl ?_
        refine J.yes rfl rfl ?_
        refine J.move rfl rfl ?_
        refine J.yes rfl rfl ?_
        have hww : 0 ≤ n → w64 ((L : Int) - n) = (L : Int) - n := fun h => w64_id (by omega)
        refine J.sub' rfl rfl rfl (show _ = w64 ((L : Int) - n) from rfl) ?_
        refine J.yes rfl rfl ?_
        refine J.gtr rfl rfl rfl rfl ?_
        refine J.yes rfl rfl ?_
        refine J.pick_f rfl rfl rfl ?_
        refine J.pick_t rfl rfl rfl ?_
        refine J.end ?_
        refine X.then ?_
        refine T.cond_dec rfl (fun h3 => ?_) (fun h3 => ?_)
        · skip
          refine T.text [.l] rfl ?_
          refine J.assign rfl rfl ?_
          refine J.end ?_
          exact X.at 92 (by omega) (by repeat (first | exact Sub.nil _ | refine Sub.cons (by first | rfl | (rw [dgs_zero]; rfl) | (rw [List.drop_length]; rfl) | (simp; done) | (congr 2; omega) | (congr 3; omega)) ?_)) (by repeat (first | exact Sub.nil _ | refine Sub.cons (by first | rfl | (rw [dgs_zero]; rfl) | (rw [List.drop_length]; rfl) | (simp; done) | (congr 2; omega) | (congr 3; omega)) ?_))
        · skip
          refine T.skip ?_
          exact X.at 0 (by omega) (by repeat (first | exact Sub.nil _ | refine Sub.cons (by first | rfl | (rw [dgs_zero]; rfl) | (rw [List.drop_length]; rfl) | (simp; done) | (congr 2; omega) | (congr 3; omega)) ?_)) (by repeat (first | exact Sub.nil _ | refine Sub.cons (by first | rfl | (rw [dgs_zero]; rfl) | (rw [List.drop_length]; rfl) | (simp; done) | (congr 2; omega) | (congr 3; omega)) ?_))
    · skip
      refine J.no rfl rfl rfl rfl ?_
      refine J.no rfl rfl rfl rfl ?_
      refine J.no rfl rfl rfl rfl ?_
      refine J.no rfl rfl rfl rfl ?_
      refine J.noU rfl rfl rfl ?_
      refine J.noU rfl rfl rfl ?_
      refine J.noU rfl rfl rfl ?_
      refine J.noU rfl rfl rfl ?_
      refine J.noU rfl rfl rfl ?_
      refine J.no rfl rfl rfl rfl ?_
      refine J.pick_f rfl rfl rfl ?_
      refine J.end ?_
      refine X.then ?_
      refine T.cond_false rfl ?_
      refine T.skip ?_
      exact X.at 0 (by omega) (by repeat (first | exact Sub.nil _ | refine Sub.cons (by first | rfl | (rw [dgs_zero]; rfl) | (rw [List.drop_length]; rfl) | (simp; done) | (congr 2; omega) | (congr 3; omega)) ?_)) (by repeat (first | exact Sub.nil _ | refine Sub.cons (by first | rfl | (rw [dgs_zero]; rfl) | (rw [List.drop_length]; rfl) | (simp; done) | (congr 2; omega) | (congr 3; omega)) ?_))
  · rintro v hv
    refine T.meet (ι := Unit) (fun (_ : Unit) => True) (fun (_ : Unit) => [(0, .int .i64 (z : Int)), (1, .int .i64 a), (2, .int .i64 n), (3, W x), (7, .pointer (some ⟨g7, 0, none⟩)), (8, .bool false), (23, .int .i64 n0), (24, .int .i64 (z : Int)), (25, .pointer (some ⟨g25, 0, none⟩)), (9, .pointer (some ⟨g25, 0, none⟩)), (26, .pointer (some ⟨g25, 0, none⟩)), (27, .bool false), (28, .bool false), (29, .pointer (some ⟨g25, 0, none⟩)), (30, .int .i64 (z : Int)), (31, .int .i64 0), (32, .bool false), (33, .bool false), (34, .bool false), (35, .pointer (some ⟨g25, 0, none⟩)), (36, .int .i64 (((List.replicate L 0).length : Nat) : Int)), (37, .int .i64 (z : Int)), (38, .bool false), (39, .bool false), (40, .bool false), (41, .pointer (some ⟨g25, 0, none⟩)), (42, .int .i64 (((List.replicate L 0).length : Nat) : Int)), (43, .int .i64 (z : Int)), (45, .bool false), (46, .bool false), (47, .bool false), (48, .pointer (some ⟨g25, 0, none⟩)), (49, .int .i64 (((List.replicate L 0).length : Nat) : Int)), (51, .bool false), (52, .bool false), (53, .pointer (some ⟨g25, 0, none⟩)), (54, .int .i64 (L : Int)), (10, .int .i64 (L : Int)), (11, .int .i64 (pieceE L a n : Int))]) (fun (_ : Unit) => [(7, ⟨some g7, 25, (wc x)⟩), (25, ⟨some g25, 99, [i31.val (List.replicate L 0).length]⟩), (26, i31.ent 5 (rowN .u8 (List.replicate L 0)))]) ?_ ?_
    · -- up to where the ways meet
      refine T.seq ?_
      refine T.text [.l, .l, .l, .l, .l, .l] rfl ?_
      refine J.move rfl rfl ?_
      refine J.lss rfl rfl rfl rfl ?_
      refine J.move rfl rfl ?_
      refine J.split 71 rfl (fun h4 => ?_) (fun h4 => ?_)
      · skip
        refine J.no rfl rfl rfl rfl ?_
        refine J.no rfl rfl rfl rfl ?_
        refine J.pick_t rfl rfl rfl ?_
        refine J.end ?_
        refine X.then ?_
        refine T.cond_true rfl ?_
        refine T.text [.l] rfl ?_
        refine J.assign rfl rfl ?_
        refine J.end ?_
        refine X.as 11 (.int .i64 (pieceE L a n : Int)) rfl (by congr 1; unfold pieceE; (repeat' split) <;> omega) ?_
        exact X.at () trivial (by repeat (first | exact Sub.nil _ | refine Sub.cons (by first | rfl | (rw [dgs_zero]; rfl) | (rw [List.drop_length]; rfl) | (simp; done) | (congr 2; omega) | (congr 3; omega)) ?_)) (by repeat (first | exact Sub.nil _ | refine Sub.cons (by first | rfl | (rw [dgs_zero]; rfl) | (rw [List.drop_length]; rfl) | (simp; done) | (congr 2; omega) | (congr 3; omega)) ?_))
      · skip
        refine J.yes rfl rfl ?_
        refine J.move rfl rfl ?_
        refine J.yes rfl rfl ?_
        refine J.lss rfl rfl rfl rfl ?_
        refine J.pick_f rfl rfl rfl ?_
        refine J.end ?_
        refine X.then ?_
        refine T.cond_dec rfl (fun h5 => ?_) (fun h5 => ?_)
        · skip
          refine T.text [.l] rfl ?_
          refine J.assign rfl rfl ?_
          refine J.end ?_
          refine X.as 11 (.int .i64 (pieceE L a n : Int)) rfl (by congr 1; unfold pieceE; (repeat' split) <;> omega) ?_
          exact X.at () trivial (by repeat (first | exact Sub.nil _ | refine Sub.cons (by first | rfl | (rw [dgs_zero]; rfl) | (rw [List.drop_length]; rfl) | (simp; done) | (congr 2; omega) | (congr 3; omega)) ?_)) (by repeat (first | exact Sub.nil _ | refine Sub.cons (by first | rfl | (rw [dgs_zero]; rfl) | (rw [List.drop_length]; rfl) | (simp; done) | (congr 2; omega) | (congr 3; omega)) ?_))
        · skip
          refine T.skip ?_
          refine X.as 11 (.int .i64 (pieceE L a n : Int)) rfl (by congr 1; unfold pieceE; (repeat' split) <;> omega) ?_
          exact X.at () trivial (by repeat (first | exact Sub.nil _ | refine Sub.cons (by first | rfl | (rw [dgs_zero]; rfl) | (rw [List.drop_length]; rfl) | (simp; done) | (congr 2; omega) | (congr 3; omega)) ?_)) (by repeat (first | exact Sub.nil _ | refine Sub.cons (by first | rfl | (rw [dgs_zero]; rfl) | (rw [List.drop_length]; rfl) | (simp; done) | (congr 2; omega) | (congr 3; omega)) ?_))
    · rintro _ hφ
      refine T.seq ?_
      refine T.text [.l, .l, .l, .l, .l, .l, .l, .l, .l] rfl ?_
      refine J.move rfl rfl ?_
      refine J.move rfl rfl ?_
      refine J.move rfl rfl ?_
      refine J.callRowE 79 rfl (t := 5) (kd := .u8) fok46 rfl rfl (fun w hw => Me.Read w g25 i31 (List.replicate L 0) hm31 (hw.memAt 25 26 rfl rfl (by decide)) _ (by omega) _ (by omega)) (fun zs79 n79 r79 hz79 hr79 => ?_)
      obtain ⟨hz79, he79⟩ := hz79
      rw [hll] at he79
      subst hz79
      subst he79
      have hcl2 := cutB_le (List.replicate L 0) a n
      have hcl := cutB_len (bs := (List.replicate L 0)) (a := a) (n := n)
      rw [hll] at hcl
      refine J.move rfl rfl ?_
      refine J.extract rfl rfl rfl ?_
      refine J.extract rfl rfl rfl ?_
      refine J.assign rfl rfl ?_
      refine J.assign rfl rfl ?_
      refine J.end ?_
      refine X.then ?_
      refine T.seq ?_
      refine T.seq ?_
      refine T.text [.l, .l, .l, .l, .l, .l, .l, .l, .l, .l, .l, .l, .l, .l, .l, .l, .l, .l, .l, .l, .l, .l, .l, .l, .l, .l, .l, .l, .l, .l, .l] rfl ?_
      refine J.move rfl rfl ?_
      refine J.move rfl rfl ?_
      refine J.neq rfl rfl rfl (decide_eq_false (by first | omega | rfl | assumption | (simp only [*]; done))) ?_
      refine J.move rfl rfl ?_
      refine J.yes rfl rfl ?_
      refine J.move rfl rfl ?_
      refine J.yes rfl rfl ?_
      refine J.move rfl rfl ?_
      refine J.yes rfl rfl ?_
      refine J.move rfl rfl ?_
      refine J.yes rfl rfl ?_
      refine J.move rfl rfl ?_
      refine J.yes rfl rfl ?_
      refine J.callMem 25 26 (by decide) (g := g25) (i := i31) (bs := (List.replicate L 0)) (bs' := moveB (List.replicate L 0) a a n) rfl rfl rfl rfl fok47 rfl rfl (fun w hw => Me.Move w g25 i31 (List.replicate L 0) hm31 (hw.memAt 25 26 rfl rfl (by decide)) _ (by omega) _ (by omega) _ (by omega)) (fun i90 hm90 => ?_)
      rw [zmove] at hm90 ⊢
      refine J.as 90 (.int .i64 (pieceE L a n : Int)) rfl (by rw [hll, moveE_self]) ?_
      refine J.yes rfl rfl ?_
      refine J.move rfl rfl ?_
      refine J.yes rfl rfl ?_
      refine J.neq rfl rfl rfl (decide_eq_false (by first | omega | rfl | assumption | (simp only [*]; done))) ?_
      refine J.pick_f rfl rfl rfl ?_
      refine J.move rfl rfl ?_
      refine J.yes rfl rfl ?_
      refine J.move rfl rfl ?_
      refine J.yes rfl rfl ?_
      refine J.eql rfl rfl rfl rfl ?_
      refine J.yes rfl rfl ?_
      refine J.move rfl rfl ?_
      refine J.split 97 rfl (fun h6 => ?_) (fun h6 => ?_)
      · skip
        refine J.yes rfl rfl ?_
        refine J.move rfl rfl ?_
        refine J.yes rfl rfl ?_
        refine J.lenSl Try.underlying22 rfl rfl ?_
        refine J.yes rfl rfl ?_
        refine J.move rfl rfl ?_
        refine J.yes rfl rfl ?_
        have hcl3 := hcl (by omega)
        have hpi := pieceE_iff.1 (show pieceE L a n = 0 by omega)
        refine J.neq rfl rfl rfl (decide_eq_false (by omega)) ?_
        refine J.yes rfl rfl ?_
        refine J.pick_t rfl rfl rfl ?_
        refine J.pick_f rfl rfl rfl ?_
        refine J.move rfl rfl ?_
        refine J.yes rfl rfl ?_
        refine J.move rfl rfl ?_
        refine J.yes rfl rfl ?_
        refine J.neq rfl rfl rfl (decide_eq_false (by first | omega | rfl | assumption | (simp only [*]; done))) ?_
        refine J.yes rfl rfl ?_
        refine J.move rfl rfl ?_
        refine J.no rfl rfl rfl rfl ?_
        refine J.no rfl rfl rfl rfl ?_
        refine J.no rfl rfl rfl rfl ?_
        refine J.yes rfl rfl ?_
        refine J.pick_f rfl rfl rfl ?_
        refine J.pick_f rfl rfl rfl ?_
        refine J.end ?_
        refine X.then ?_
        refine T.cond_false rfl ?_
        refine T.skip ?_
        refine X.then ?_
        refine T.seq ?_
        refine T.seq ?_
        refine T.text [.l, .l, .l, .l, .l, .l, .l, .l, .l] rfl ?_
        refine J.move rfl rfl ?_
        refine J.eql rfl rfl rfl (decide_eq_true (by first | omega | rfl | assumption | (simp only [*]; done))) ?_
        refine J.move rfl rfl ?_
        refine J.yes rfl rfl ?_
        refine J.move rfl rfl ?_
        refine J.yes rfl rfl ?_
        refine J.move rfl rfl ?_
        refine J.yes rfl rfl ?_
        refine J.move rfl rfl ?_
        refine J.yes rfl rfl ?_
        refine J.callMem 25 26 (by decide) (g := g25) (i := i90) (bs := (List.replicate L 0)) (bs' := writeB (List.replicate L 0) a (cutB (List.replicate L 0) a n)) rfl rfl rfl rfl fok45 rfl rfl (fun w hw => Me.Write w g25 i90 (List.replicate L 0) hm90 (hw.memAt 25 26 rfl rfl (by decide)) a (by omega) _ (cutB (List.replicate L 0) a n) _ (hw.rowCs (k := 79) rfl) (fun _ => hw.offMem 25 26 rfl rfl 79 rfl (by decide) (by decide)) (cutB_dg hm90.dg _ _) (by omega)) (fun i119 hm119 => ?_)
        rw [zwrite (fun q => zcut_get L a n q)] at hm119 ⊢
        refine J.as 119 (.int .i64 0) rfl (by rw [hll, show (((cutB (List.replicate L 0) a n).length : Nat) : Int) = n by omega, show pieceE L a n = 0 by omega]; rfl) ?_
        refine J.yes rfl rfl ?_
        refine J.neq rfl rfl rfl (decide_eq_false (by first | omega | rfl | assumption | (simp only [*]; done))) ?_
        refine J.pick_t rfl rfl rfl ?_
        refine J.end ?_
        refine X.then ?_
        refine T.cond_false rfl ?_
        refine T.skip ?_
        refine X.then ?_
        refine T.seq ?_
        refine T.text [.l, .l, .l, .l, .l, .l, .l, .l, .l] rfl ?_
        refine J.move rfl rfl ?_
        refine J.move rfl rfl ?_
        refine J.call0 (k := .l) trivial fok48 rfl rfl (fun w hw => Me.Load w g25 i119 (List.replicate L 0) hm119 (hw.memAt 25 26 rfl rfl (by decide)) _ (by omega)) ?_
        rw [zload]
        have hI := pieceE_iff (L := L) (a := a) (n := 32)
        refine J.move rfl rfl ?_
        refine J.extract rfl rfl rfl ?_
        refine J.extract rfl rfl rfl ?_
        refine J.as 127 (.int .i64 (pieceE L a 32 : Int)) rfl (by rw [hll]) ?_
        refine J.alloc 14 rfl zero25 [.int .u64 0, .int .u64 0, .int .u64 0, .int .u64 0] rfl rfl (fun g14 hg14 => ?_)
        refine J.store 14 rfl rfl rfl rfl (wc 0) rfl sz25 (by first | decide | exact Nat.le_refl _ | exact Nat.le_of_ble_eq_true rfl | (simp [rowN]; done) | (simp [rowN]; omega)) (by first | exact rowN_one _ _ | (simp; done) | (intro u hu; simp at hu; subst hu; rfl) | (intro u hu; simp at hu; rcases hu with rfl | rfl <;> rfl)) (by first | decide | exact Nat.zero_lt_succ _ | simp) trivial (wc 0) rfl ?_
        refine J.assign rfl rfl ?_
        refine J.end ?_
        refine X.then ?_
        refine T.seq ?_
        refine T.text [.l, .l, .l, .l, .l] rfl ?_
        refine J.move rfl rfl ?_
        refine J.move rfl rfl ?_
        refine J.loadN (k := .l) trivial 7 rfl rfl agg25 (wc x) rfl rfl rfl ?_
        refine J.callMem 25 26 (by decide) (g := g25) (i := i119) (bs := (List.replicate L 0)) (bs' := writeB (List.replicate L 0) a (bytesN x)) rfl rfl rfl rfl fok43 rfl rfl (fun w hw => Me.Store w g25 i119 (List.replicate L 0) hm119 (hw.memAt 25 26 rfl rfl (by decide)) _ (by omega) _) (fun i131 hm131 => ?_)
        refine J.as 131 (.int .i64 (pieceE L a 32 : Int)) rfl (by rw [hll]) ?_
        refine J.assign rfl rfl ?_
        refine J.end ?_
        refine X.then ?_
        refine T.seq ?_
        refine T.seq ?_
        refine T.text [.l, .l, .l, .l, .l, .l, .l, .l, .l, .l, .l, .l, .l, .l, .l, .l, .l, .l, .l, .l, .l, .l, .l, .l, .l] rfl ?_
        refine J.move rfl rfl ?_
        refine J.move rfl rfl ?_
        refine J.neq rfl rfl rfl (decide_eq_false (by first | omega | rfl | assumption | (simp only [*]; done))) ?_
        refine J.move rfl rfl ?_
        refine J.yes rfl rfl ?_
        refine J.move rfl rfl ?_
        refine J.yes rfl rfl ?_
        refine J.neq rfl rfl rfl rfl ?_
        refine J.yes rfl rfl ?_
        refine J.move rfl rfl ?_
        refine J.split 138 rfl (fun h7 => ?_) (fun h7 => ?_)
        · skip
          refine J.yes rfl rfl ?_
          refine J.loadN (k := .l) trivial 14 rfl rfl agg25 (wc 0) rfl rfl rfl ?_
          refine J.yes rfl rfl ?_
          refine J.build rfl rfl (W 0) (fun w => by kernel_rfl) ?_
          refine J.yes rfl rfl ?_
          refine J.neqW eqw25 rfl rfl rfl ?_
          refine J.as 141 (.bool false) rfl (by rw [decide_eq_false (by first | omega | rfl | assumption | (simp only [*]; done))]) ?_
          refine J.yes rfl rfl ?_
          refine J.pick_t rfl rfl rfl ?_
          refine J.pick_f rfl rfl rfl ?_
          refine J.move rfl rfl ?_
          refine J.yes rfl rfl ?_
          refine J.move rfl rfl ?_
          refine J.yes rfl rfl ?_
          refine J.eql rfl rfl rfl (decide_eq_false (by first | omega | rfl | assumption | (simp only [*]; done))) ?_
          refine J.yes rfl rfl ?_
          refine J.move rfl rfl ?_
          refine J.yes rfl rfl ?_
          refine J.geq rfl rfl rfl rfl ?_
          refine J.yes rfl rfl ?_
          refine J.move rfl rfl ?_
          refine J.split 149 rfl (fun h8 => ?_) (fun h8 => ?_)
          · skip
            refine J.yes rfl rfl ?_
            refine J.move rfl rfl ?_
            refine J.yes rfl rfl ?_
            refine J.move rfl rfl ?_
            refine J.yes rfl rfl ?_
            refine J.sub' rfl rfl rfl (by exact i64_ok _ (by omega)) ?_
            refine J.yes rfl rfl ?_
            refine J.leq rfl rfl rfl (decide_eq_false (by first | omega | rfl | assumption | (simp only [*]; done))) ?_
            refine J.yes rfl rfl ?_
            refine J.pick_t rfl rfl rfl ?_
            refine J.yes rfl rfl ?_
            refine J.neqB Try.underlying4 rfl rfl rfl rfl ?_
            refine J.pick_f rfl rfl rfl ?_
            refine J.end ?_
            refine X.then ?_
            refine T.cond_false rfl ?_
            refine T.skip ?_
            refine X.then ?_
            refine T.seq ?_
            refine T.seq ?_
            refine T.text [.l, .l] rfl ?_
            refine J.move rfl rfl ?_
            refine J.eql rfl rfl rfl (decide_eq_false (by first | omega | rfl | assumption | (simp only [*]; done))) ?_
            refine J.end ?_
            refine X.then ?_
            refine T.cond_false rfl ?_
            refine T.skip ?_
            refine X.then ?_
            refine T.seq ?_
            refine T.text [.l, .l] rfl ?_
            refine J.call0 (k := .l) trivial fok39 rfl rfl (fun w hw => Pg.wrote w) ?_
            refine J.assign rfl rfl ?_
            refine J.end ?_
            refine X.then ?_
            refine T.ret ?_
            exact X.ret1 rfl (RV.tmp rfl) (fun w' hw' => ⟨rfl, hw'.sub (Sub.nil _)⟩)
          · skip
            refine J.no rfl rfl rfl rfl ?_
            refine J.no rfl rfl rfl rfl ?_
            refine J.no rfl rfl rfl rfl ?_
            refine J.no rfl rfl rfl rfl ?_
            refine J.yes rfl rfl ?_
            refine J.pick_f rfl rfl rfl ?_
            refine J.yes rfl rfl ?_
            refine J.neqB Try.underlying4 rfl rfl rfl rfl ?_
            refine J.pick_f rfl rfl rfl ?_
            refine J.end ?_
            refine X.then ?_
            refine T.cond_false rfl ?_
            refine T.skip ?_
            refine X.then ?_
            refine T.seq ?_
            refine T.seq ?_
            refine T.text [.l, .l] rfl ?_
            refine J.move rfl rfl ?_
            refine J.eql rfl rfl rfl (decide_eq_false (by first | omega | rfl | assumption | (simp only [*]; done))) ?_
            refine J.end ?_
            refine X.then ?_
            refine T.cond_false rfl ?_
            refine T.skip ?_
            refine X.then ?_
            refine T.seq ?_
            refine T.text [.l, .l] rfl ?_
            refine J.call0 (k := .l) trivial fok39 rfl rfl (fun w hw => Pg.wrote w) ?_
            refine J.assign rfl rfl ?_
            refine J.end ?_
            refine X.then ?_
            refine T.ret ?_
            exact X.ret1 rfl (RV.tmp rfl) (fun w' hw' => ⟨rfl, hw'.sub (Sub.nil _)⟩)
        · skip
          refine J.no rfl rfl rfl rfl ?_
          refine J.no rfl rfl rfl rfl ?_
          refine J.no rfl rfl rfl rfl ?_
          refine J.yes rfl rfl ?_
          refine J.pick_f rfl rfl rfl ?_
          refine J.pick_f rfl rfl rfl ?_
          refine J.move rfl rfl ?_
          refine J.yes rfl rfl ?_
          refine J.move rfl rfl ?_
          refine J.yes rfl rfl ?_
          refine J.eql rfl rfl rfl (decide_eq_true (by first | omega | rfl | assumption | (simp only [*]; done))) ?_
          refine J.yes rfl rfl ?_
          refine J.move rfl rfl ?_
          refine J.yes rfl rfl ?_
          refine J.geq rfl rfl rfl (decide_eq_true (by first | omega | rfl | assumption | (simp only [*]; done))) ?_
          refine J.yes rfl rfl ?_
          refine J.move rfl rfl ?_
          refine J.yes rfl rfl ?_
          refine J.move rfl rfl ?_
          refine J.yes rfl rfl ?_
          refine J.move rfl rfl ?_
          refine J.yes rfl rfl ?_
          refine J.sub' rfl rfl rfl (by exact i64_ok _ (by omega)) ?_
          refine J.yes rfl rfl ?_
          refine J.leq rfl rfl rfl (decide_eq_true (by first | omega | rfl | assumption | (simp only [*]; done))) ?_
          refine J.yes rfl rfl ?_
          refine J.pick_t rfl rfl rfl ?_
          refine J.yes rfl rfl ?_
          refine J.neqB Try.underlying4 rfl rfl rfl rfl ?_
          refine J.pick_f rfl rfl rfl ?_
          refine J.end ?_
          refine X.then ?_
          refine T.cond_false rfl ?_
          refine T.skip ?_
          refine X.then ?_
          refine T.seq ?_
          refine T.seq ?_
          refine T.text [.l, .l] rfl ?_
          refine J.move rfl rfl ?_
          refine J.eql rfl rfl rfl (decide_eq_true (by first | omega | rfl | assumption | (simp only [*]; done))) ?_
          refine J.end ?_
          refine X.then ?_
          refine T.cond_true rfl ?_
          refine T.seq ?_
          refine T.text [.l, .l, .l, .l, .l, .l, .l, .l, .l] rfl ?_
          refine J.move rfl rfl ?_
          refine J.move rfl rfl ?_
          have hE0 : pieceE (List.replicate L 0).length a 32 = 0 := by rw [hll]; omega
          have hlw := load_write (x := x) hE0
          refine J.call0 (k := .l) trivial fok48 rfl rfl (fun w hw => Me.Load w g25 i131 (writeB (List.replicate L 0) a (bytesN x)) hm131 (hw.memAt 25 26 rfl rfl (by decide)) _ (by omega)) ?_
          refine J.move rfl rfl ?_
          refine J.extract rfl rfl rfl ?_
          refine J.extract rfl rfl rfl ?_
          refine J.alloc 17 rfl zero25 [.int .u64 0, .int .u64 0, .int .u64 0, .int .u64 0] rfl rfl (fun g17 hg17 => ?_)
          refine J.store 17 rfl rfl rfl rfl (wc (loadX (writeB (List.replicate L 0) a (bytesN x)) a)) rfl sz25 (by first | decide | exact Nat.le_refl _ | exact Nat.le_of_ble_eq_true rfl | (simp [rowN]; done) | (simp [rowN]; omega)) (by first | exact rowN_one _ _ | (simp; done) | (intro u hu; simp at hu; subst hu; rfl) | (intro u hu; simp at hu; rcases hu with rfl | rfl <;> rfl)) (by first | decide | exact Nat.zero_lt_succ _ | simp) trivial (wc (loadX (writeB (List.replicate L 0) a (bytesN x)) a)) rfl ?_
          refine J.assign rfl rfl ?_
          refine J.end ?_
          refine X.then ?_
          refine T.seq ?_
          refine T.text [.l, .l, .l, .l, .l, .l, .l, .l] rfl ?_
          refine J.move rfl rfl ?_
          refine J.move rfl rfl ?_
          refine J.callRowE 168 rfl (t := 5) (kd := .u8) fok46 rfl rfl (fun w hw => Me.Read w g25 i131 (writeB (List.replicate L 0) a (bytesN x)) hm131 (hw.memAt 25 26 rfl rfl (by decide)) _ (by omega) _ (by omega)) (fun zs168 n168 r168 hz168 hr168 => ?_)
          obtain ⟨hz168, he168⟩ := hz168
          have hcb := cutB_dg hm131.dg a 32
          have hcb2 := cutB_le (writeB (List.replicate L 0) a (bytesN x)) a 32
          have hcb3 : (writeB (List.replicate L 0) a (bytesN x)).length = L := by rw [writeB_length, hll]
          subst hz168
          refine J.move rfl rfl ?_
          refine J.extract rfl rfl rfl ?_
          refine J.extract rfl rfl rfl ?_
          refine J.assign rfl rfl ?_
          refine J.assign rfl rfl ?_
          refine J.end ?_
          refine X.then ?_
          refine T.seq ?_
          refine T.text [.l, .l, .l, .l, .l, .l, .l, .l] rfl ?_
          refine J.move rfl rfl ?_
          refine J.call0 (k := .l) trivial fok49 rfl rfl (fun w hw => Wa.FromBytes w _ _ _ (hw.rowCs (k := 168) rfl) hcb (by omega)) ?_
          rw [(loadX_yes hlw.2).1, (loadX_yes hlw.2).2]
          refine J.move rfl rfl ?_
          refine J.extract rfl rfl rfl ?_
          refine J.extract rfl rfl rfl ?_
          refine J.as 175 (.int .i64 0) rfl (by rfl) ?_
          refine J.alloc 21 rfl zero25 [.int .u64 0, .int .u64 0, .int .u64 0, .int .u64 0] rfl rfl (fun g21 hg21 => ?_)
          refine J.store 21 rfl rfl rfl rfl (wc (loadX (writeB (List.replicate L 0) a (bytesN x)) a)) rfl sz25 (by first | decide | exact Nat.le_refl _ | exact Nat.le_of_ble_eq_true rfl | (simp [rowN]; done) | (simp [rowN]; omega)) (by first | exact rowN_one _ _ | (simp; done) | (intro u hu; simp at hu; subst hu; rfl) | (intro u hu; simp at hu; rcases hu with rfl | rfl <;> rfl)) (by first | decide | exact Nat.zero_lt_succ _ | simp) trivial (wc (loadX (writeB (List.replicate L 0) a (bytesN x)) a)) rfl ?_
          refine J.assign rfl rfl ?_
          refine J.end ?_
          refine X.then ?_
          refine T.seq ?_
          refine T.text [.l, .l, .l, .l, .l, .l, .l, .l, .l, .l, .l, .l, .l, .l, .l, .l, .l] rfl ?_
          refine J.loadN (k := .l) trivial 17 rfl rfl agg25 (wc (loadX (writeB (List.replicate L 0) a (bytesN x)) a)) rfl rfl rfl ?_
          refine J.loadN (k := .l) trivial 7 rfl rfl agg25 (wc x) rfl rfl rfl ?_
          refine J.neqW eqw25 rfl rfl rfl ?_
          have hl1 := hlw.1
          refine J.as 178 (.bool false) rfl (by rw [decide_eq_false (by rw [hl1]; omega)]) ?_
          refine J.move rfl rfl ?_
          refine J.yes rfl rfl ?_
          refine J.loadN (k := .l) trivial 21 rfl rfl agg25 (wc (loadX (writeB (List.replicate L 0) a (bytesN x)) a)) rfl rfl rfl ?_
          refine J.yes rfl rfl ?_
          refine J.loadN (k := .l) trivial 7 rfl rfl agg25 (wc x) rfl rfl rfl ?_
          refine J.yes rfl rfl ?_
          refine J.neqW eqw25 rfl rfl rfl ?_
          refine J.as 182 (.bool false) rfl (by rw [decide_eq_false (by rw [hl1]; omega)]) ?_
          refine J.pick_f rfl rfl rfl ?_
          refine J.move rfl rfl ?_
          refine J.yes rfl rfl ?_
          refine J.move rfl rfl ?_
          refine J.yes rfl rfl ?_
          refine J.neq rfl rfl rfl (decide_eq_false (by first | omega | rfl | assumption | (simp only [*]; done))) ?_
          refine J.pick_f rfl rfl rfl ?_
          refine J.move rfl rfl ?_
          refine J.yes rfl rfl ?_
          refine J.loadN (k := .l) trivial 14 rfl rfl agg25 (wc 0) rfl rfl rfl ?_
          refine J.yes rfl rfl ?_
          refine J.build rfl rfl (W 0) (fun w => by kernel_rfl) ?_
          refine J.yes rfl rfl ?_
          refine J.neqW eqw25 rfl rfl rfl ?_
          refine J.as 191 (.bool false) rfl (by rw [decide_eq_false (by first | omega | rfl | assumption | (simp only [*]; done))]) ?_
          refine J.pick_f rfl rfl rfl ?_
          refine J.end ?_
          refine X.then ?_
          refine T.cond_false rfl ?_
          refine T.skip ?_
          refine X.then ?_
          refine T.seq ?_
          refine T.text [.l, .l] rfl ?_
          refine J.call0 (k := .l) trivial fok39 rfl rfl (fun w hw => Pg.wrote w) ?_
          refine J.assign rfl rfl ?_
          refine J.end ?_
          refine X.then ?_
          refine T.ret ?_
          exact X.ret1 rfl (RV.tmp rfl) (fun w' hw' => ⟨rfl, hw'.sub (Sub.nil _)⟩)
      · skip
        refine J.no rfl rfl rfl rfl ?_
        refine J.no rfl rfl rfl rfl ?_
        refine J.no rfl rfl rfl rfl ?_
        refine J.no rfl rfl rfl rfl ?_
        refine J.yes rfl rfl ?_
        refine J.pick_f rfl rfl rfl ?_
        refine J.pick_f rfl rfl rfl ?_
        refine J.move rfl rfl ?_
        refine J.yes rfl rfl ?_
        refine J.move rfl rfl ?_
        refine J.yes rfl rfl ?_
        refine J.neq rfl rfl rfl (decide_eq_true (by first | omega | rfl | assumption | (simp only [*]; done))) ?_
        refine J.yes rfl rfl ?_
        refine J.move rfl rfl ?_
        refine J.yes rfl rfl ?_
        refine J.move rfl rfl ?_
        refine J.yes rfl rfl ?_
        refine J.lenSl Try.underlying22 rfl rfl ?_
        refine J.yes rfl rfl ?_
        have hcl3 := cutB_no (bs := (List.replicate L 0)) (a := a) (n := n) (by rw [hll]; omega)
        have hcl4 : (cutB (List.replicate L 0) a n).length = 0 := by rw [hcl3]; rfl
        refine J.neq rfl rfl rfl (decide_eq_false (by omega)) ?_
        refine J.yes rfl rfl ?_
        refine J.pick_t rfl rfl rfl ?_
        refine J.pick_f rfl rfl rfl ?_
        refine J.end ?_
        refine X.then ?_
        refine T.cond_false rfl ?_
        refine T.skip ?_
        refine X.then ?_
        refine T.seq ?_
        refine T.seq ?_
        refine T.text [.l, .l, .l, .l, .l, .l, .l, .l, .l] rfl ?_
        refine J.move rfl rfl ?_
        refine J.eql rfl rfl rfl (decide_eq_false (by first | omega | rfl | assumption | (simp only [*]; done))) ?_
        refine J.move rfl rfl ?_
        refine J.no rfl rfl rfl rfl ?_
        refine J.no rfl rfl rfl rfl ?_
        refine J.no rfl rfl rfl rfl ?_
        refine J.no rfl rfl rfl rfl ?_
        refine J.no rfl rfl rfl rfl ?_
        refine J.pick_f rfl rfl rfl ?_
        refine J.end ?_
        refine X.then ?_
        refine T.cond_false rfl ?_
        refine T.skip ?_
        refine X.then ?_
        refine T.seq ?_
        refine T.text [.l, .l, .l, .l, .l, .l, .l, .l, .l] rfl ?_
        refine J.move rfl rfl ?_
        refine J.move rfl rfl ?_
        refine J.call0 (k := .l) trivial fok48 rfl rfl (fun w hw => Me.Load w g25 i90 (List.replicate L 0) hm90 (hw.memAt 25 26 rfl rfl (by decide)) _ (by omega)) ?_
        rw [zload]
        have hI := pieceE_iff (L := L) (a := a) (n := 32)
        refine J.move rfl rfl ?_
        refine J.extract rfl rfl rfl ?_
        refine J.extract rfl rfl rfl ?_
        refine J.as 127 (.int .i64 (pieceE L a 32 : Int)) rfl (by rw [hll]) ?_
        refine J.alloc 14 rfl zero25 [.int .u64 0, .int .u64 0, .int .u64 0, .int .u64 0] rfl rfl (fun g14 hg14 => ?_)
        refine J.store 14 rfl rfl rfl rfl (wc 0) rfl sz25 (by first | decide | exact Nat.le_refl _ | exact Nat.le_of_ble_eq_true rfl | (simp [rowN]; done) | (simp [rowN]; omega)) (by first | exact rowN_one _ _ | (simp; done) | (intro u hu; simp at hu; subst hu; rfl) | (intro u hu; simp at hu; rcases hu with rfl | rfl <;> rfl)) (by first | decide | exact Nat.zero_lt_succ _ | simp) trivial (wc 0) rfl ?_
        refine J.assign rfl rfl ?_
        refine J.end ?_
        refine X.then ?_
        refine T.seq ?_
        refine T.text [.l, .l, .l, .l, .l] rfl ?_
        refine J.move rfl rfl ?_
        refine J.move rfl rfl ?_
        refine J.loadN (k := .l) trivial 7 rfl rfl agg25 (wc x) rfl rfl rfl ?_
        refine J.callMem 25 26 (by decide) (g := g25) (i := i90) (bs := (List.replicate L 0)) (bs' := writeB (List.replicate L 0) a (bytesN x)) rfl rfl rfl rfl fok43 rfl rfl (fun w hw => Me.Store w g25 i90 (List.replicate L 0) hm90 (hw.memAt 25 26 rfl rfl (by decide)) _ (by omega) _) (fun i131 hm131 => ?_)
        refine J.as 131 (.int .i64 (pieceE L a 32 : Int)) rfl (by rw [hll]) ?_
        refine J.assign rfl rfl ?_
        refine J.end ?_
        refine X.then ?_
        refine T.seq ?_
        refine T.seq ?_
        refine T.text [.l, .l, .l, .l, .l, .l, .l, .l, .l, .l, .l, .l, .l, .l, .l, .l, .l, .l, .l, .l, .l, .l, .l, .l, .l] rfl ?_
        refine J.move rfl rfl ?_
        refine J.move rfl rfl ?_
        refine J.neq rfl rfl rfl (decide_eq_false (by first | omega | rfl | assumption | (simp only [*]; done))) ?_
        refine J.move rfl rfl ?_
        refine J.yes rfl rfl ?_
        refine J.move rfl rfl ?_
        refine J.yes rfl rfl ?_
        refine J.neq rfl rfl rfl rfl ?_
        refine J.yes rfl rfl ?_
        refine J.move rfl rfl ?_
        refine J.split 138 rfl (fun h9 => ?_) (fun h9 => ?_)
        · skip
          refine J.yes rfl rfl ?_
          refine J.loadN (k := .l) trivial 14 rfl rfl agg25 (wc 0) rfl rfl rfl ?_
          refine J.yes rfl rfl ?_
          refine J.build rfl rfl (W 0) (fun w => by kernel_rfl) ?_
          refine J.yes rfl rfl ?_
          refine J.neqW eqw25 rfl rfl rfl ?_
          refine J.as 141 (.bool false) rfl (by rw [decide_eq_false (by first | omega | rfl | assumption | (simp only [*]; done))]) ?_
          refine J.yes rfl rfl ?_
          refine J.pick_t rfl rfl rfl ?_
          refine J.pick_f rfl rfl rfl ?_
          refine J.move rfl rfl ?_
          refine J.yes rfl rfl ?_
          refine J.move rfl rfl ?_
          refine J.yes rfl rfl ?_
          refine J.eql rfl rfl rfl (decide_eq_false (by first | omega | rfl | assumption | (simp only [*]; done))) ?_
          refine J.yes rfl rfl ?_
          refine J.move rfl rfl ?_
          refine J.yes rfl rfl ?_
          refine J.geq rfl rfl rfl rfl ?_
          refine J.yes rfl rfl ?_
          refine J.move rfl rfl ?_
          refine J.split 149 rfl (fun h10 => ?_) (fun h10 => ?_)
          · skip
            refine J.yes rfl rfl ?_
            refine J.move rfl rfl ?_
            refine J.yes rfl rfl ?_
            refine J.move rfl rfl ?_
            refine J.yes rfl rfl ?_
            refine J.sub' rfl rfl rfl (by exact i64_ok _ (by omega)) ?_
            refine J.yes rfl rfl ?_
            refine J.leq rfl rfl rfl (decide_eq_false (by first | omega | rfl | assumption | (simp only [*]; done))) ?_
            refine J.yes rfl rfl ?_
            refine J.pick_t rfl rfl rfl ?_
            refine J.yes rfl rfl ?_
            refine J.neqB Try.underlying4 rfl rfl rfl rfl ?_
            refine J.pick_f rfl rfl rfl ?_
            refine J.end ?_
            refine X.then ?_
            refine T.cond_false rfl ?_
            refine T.skip ?_
            refine X.then ?_
            refine T.seq ?_
            refine T.seq ?_
            refine T.text [.l, .l] rfl ?_
            refine J.move rfl rfl ?_
            refine J.eql rfl rfl rfl (decide_eq_false (by first | omega | rfl | assumption | (simp only [*]; done))) ?_
            refine J.end ?_
            refine X.then ?_
            refine T.cond_false rfl ?_
            refine T.skip ?_
            refine X.then ?_
            refine T.seq ?_
            refine T.text [.l, .l] rfl ?_
            refine J.call0 (k := .l) trivial fok39 rfl rfl (fun w hw => Pg.wrote w) ?_
            refine J.assign rfl rfl ?_
            refine J.end ?_
            refine X.then ?_
            refine T.ret ?_
            exact X.ret1 rfl (RV.tmp rfl) (fun w' hw' => ⟨rfl, hw'.sub (Sub.nil _)⟩)
          · skip
            refine J.no rfl rfl rfl rfl ?_
            refine J.no rfl rfl rfl rfl ?_
            refine J.no rfl rfl rfl rfl ?_
            refine J.no rfl rfl rfl rfl ?_
            refine J.yes rfl rfl ?_
            refine J.pick_f rfl rfl rfl ?_
            refine J.yes rfl rfl ?_
            refine J.neqB Try.underlying4 rfl rfl rfl rfl ?_
            refine J.pick_f rfl rfl rfl ?_
            refine J.end ?_
            refine X.then ?_
            refine T.cond_false rfl ?_
            refine T.skip ?_
            refine X.then ?_
            refine T.seq ?_
            refine T.seq ?_
            refine T.text [.l, .l] rfl ?_
            refine J.move rfl rfl ?_
            refine J.eql rfl rfl rfl (decide_eq_false (by first | omega | rfl | assumption | (simp only [*]; done))) ?_
            refine J.end ?_
            refine X.then ?_
            refine T.cond_false rfl ?_
            refine T.skip ?_
            refine X.then ?_
            refine T.seq ?_
            refine T.text [.l, .l] rfl ?_
            refine J.call0 (k := .l) trivial fok39 rfl rfl (fun w hw => Pg.wrote w) ?_
            refine J.assign rfl rfl ?_
            refine J.end ?_
            refine X.then ?_
            refine T.ret ?_
            exact X.ret1 rfl (RV.tmp rfl) (fun w' hw' => ⟨rfl, hw'.sub (Sub.nil _)⟩)
        · skip
          refine J.no rfl rfl rfl rfl ?_
          refine J.no rfl rfl rfl rfl ?_
          refine J.no rfl rfl rfl rfl ?_
          refine J.yes rfl rfl ?_
          refine J.pick_f rfl rfl rfl ?_
          refine J.pick_f rfl rfl rfl ?_
          refine J.move rfl rfl ?_
          refine J.yes rfl rfl ?_
          refine J.move rfl rfl ?_
          refine J.yes rfl rfl ?_
          refine J.eql rfl rfl rfl (decide_eq_true (by first | omega | rfl | assumption | (simp only [*]; done))) ?_
          refine J.yes rfl rfl ?_
          refine J.move rfl rfl ?_
          refine J.yes rfl rfl ?_
          refine J.geq rfl rfl rfl (decide_eq_true (by first | omega | rfl | assumption | (simp only [*]; done))) ?_
          refine J.yes rfl rfl ?_
          refine J.move rfl rfl ?_
          refine J.yes rfl rfl ?_
          refine J.move rfl rfl ?_
          refine J.yes rfl rfl ?_
          refine J.move rfl rfl ?_
          refine J.yes rfl rfl ?_
          refine J.sub' rfl rfl rfl (by exact i64_ok _ (by omega)) ?_
          refine J.yes rfl rfl ?_
          refine J.leq rfl rfl rfl (decide_eq_true (by first | omega | rfl | assumption | (simp only [*]; done))) ?_
          refine J.yes rfl rfl ?_
          refine J.pick_t rfl rfl rfl ?_
          refine J.yes rfl rfl ?_
          refine J.neqB Try.underlying4 rfl rfl rfl rfl ?_
          refine J.pick_f rfl rfl rfl ?_
          refine J.end ?_
          refine X.then ?_
          refine T.cond_false rfl ?_
          refine T.skip ?_
          refine X.then ?_
          refine T.seq ?_
          refine T.seq ?_
          refine T.text [.l, .l] rfl ?_
          refine J.move rfl rfl ?_
          refine J.eql rfl rfl rfl (decide_eq_true (by first | omega | rfl | assumption | (simp only [*]; done))) ?_
          refine J.end ?_
          refine X.then ?_
          refine T.cond_true rfl ?_
          refine T.seq ?_
          refine T.text [.l, .l, .l, .l, .l, .l, .l, .l, .l] rfl ?_
          refine J.move rfl rfl ?_
          refine J.move rfl rfl ?_
          have hE0 : pieceE (List.replicate L 0).length a 32 = 0 := by rw [hll]; omega
          have hlw := load_write (x := x) hE0
          refine J.call0 (k := .l) trivial fok48 rfl rfl (fun w hw => Me.Load w g25 i131 (writeB (List.replicate L 0) a (bytesN x)) hm131 (hw.memAt 25 26 rfl rfl (by decide)) _ (by omega)) ?_
          refine J.move rfl rfl ?_
          refine J.extract rfl rfl rfl ?_
          refine J.extract rfl rfl rfl ?_
          refine J.alloc 17 rfl zero25 [.int .u64 0, .int .u64 0, .int .u64 0, .int .u64 0] rfl rfl (fun g17 hg17 => ?_)
          refine J.store 17 rfl rfl rfl rfl (wc (loadX (writeB (List.replicate L 0) a (bytesN x)) a)) rfl sz25 (by first | decide | exact Nat.le_refl _ | exact Nat.le_of_ble_eq_true rfl | (simp [rowN]; done) | (simp [rowN]; omega)) (by first | exact rowN_one _ _ | (simp; done) | (intro u hu; simp at hu; subst hu; rfl) | (intro u hu; simp at hu; rcases hu with rfl | rfl <;> rfl)) (by first | decide | exact Nat.zero_lt_succ _ | simp) trivial (wc (loadX (writeB (List.replicate L 0) a (bytesN x)) a)) rfl ?_
          refine J.assign rfl rfl ?_
          refine J.end ?_
          refine X.then ?_
          refine T.seq ?_
          refine T.text [.l, .l, .l, .l, .l, .l, .l, .l] rfl ?_
          refine J.move rfl rfl ?_
          refine J.move rfl rfl ?_
          refine J.callRowE 168 rfl (t := 5) (kd := .u8) fok46 rfl rfl (fun w hw => Me.Read w g25 i131 (writeB (List.replicate L 0) a (bytesN x)) hm131 (hw.memAt 25 26 rfl rfl (by decide)) _ (by omega) _ (by omega)) (fun zs168 n168 r168 hz168 hr168 => ?_)
          obtain ⟨hz168, he168⟩ := hz168
          have hcb := cutB_dg hm131.dg a 32
          have hcb2 := cutB_le (writeB (List.replicate L 0) a (bytesN x)) a 32
          have hcb3 : (writeB (List.replicate L 0) a (bytesN x)).length = L := by rw [writeB_length, hll]
          subst hz168
          refine J.move rfl rfl ?_
          refine J.extract rfl rfl rfl ?_
          refine J.extract rfl rfl rfl ?_
          refine J.assign rfl rfl ?_
          refine J.assign rfl rfl ?_
          refine J.end ?_
          refine X.then ?_
          refine T.seq ?_
          refine T.text [.l, .l, .l, .l, .l, .l, .l, .l] rfl ?_
          refine J.move rfl rfl ?_
          refine J.call0 (k := .l) trivial fok49 rfl rfl (fun w hw => Wa.FromBytes w _ _ _ (hw.rowCs (k := 168) rfl) hcb (by omega)) ?_
          rw [(loadX_yes hlw.2).1, (loadX_yes hlw.2).2]
          refine J.move rfl rfl ?_
          refine J.extract rfl rfl rfl ?_
          refine J.extract rfl rfl rfl ?_
          refine J.as 175 (.int .i64 0) rfl (by rfl) ?_
          refine J.alloc 21 rfl zero25 [.int .u64 0, .int .u64 0, .int .u64 0, .int .u64 0] rfl rfl (fun g21 hg21 => ?_)
          refine J.store 21 rfl rfl rfl rfl (wc (loadX (writeB (List.replicate L 0) a (bytesN x)) a)) rfl sz25 (by first | decide | exact Nat.le_refl _ | exact Nat.le_of_ble_eq_true rfl | (simp [rowN]; done) | (simp [rowN]; omega)) (by first | exact rowN_one _ _ | (simp; done) | (intro u hu; simp at hu; subst hu; rfl) | (intro u hu; simp at hu; rcases hu with rfl | rfl <;> rfl)) (by first | decide | exact Nat.zero_lt_succ _ | simp) trivial (wc (loadX (writeB (List.replicate L 0) a (bytesN x)) a)) rfl ?_
          refine J.assign rfl rfl ?_
          refine J.end ?_
          refine X.then ?_
          refine T.seq ?_
          refine T.text [.l, .l, .l, .l, .l, .l, .l, .l, .l, .l, .l, .l, .l, .l, .l, .l, .l] rfl ?_
          refine J.loadN (k := .l) trivial 17 rfl rfl agg25 (wc (loadX (writeB (List.replicate L 0) a (bytesN x)) a)) rfl rfl rfl ?_
          refine J.loadN (k := .l) trivial 7 rfl rfl agg25 (wc x) rfl rfl rfl ?_
          refine J.neqW eqw25 rfl rfl rfl ?_
          have hl1 := hlw.1
          refine J.as 178 (.bool false) rfl (by rw [decide_eq_false (by rw [hl1]; omega)]) ?_
          refine J.move rfl rfl ?_
          refine J.yes rfl rfl ?_
          refine J.loadN (k := .l) trivial 21 rfl rfl agg25 (wc (loadX (writeB (List.replicate L 0) a (bytesN x)) a)) rfl rfl rfl ?_
          refine J.yes rfl rfl ?_
          refine J.loadN (k := .l) trivial 7 rfl rfl agg25 (wc x) rfl rfl rfl ?_
          refine J.yes rfl rfl ?_
          refine J.neqW eqw25 rfl rfl rfl ?_
          refine J.as 182 (.bool false) rfl (by rw [decide_eq_false (by rw [hl1]; omega)]) ?_
          refine J.pick_f rfl rfl rfl ?_
          refine J.move rfl rfl ?_
          refine J.yes rfl rfl ?_
          refine J.move rfl rfl ?_
          refine J.yes rfl rfl ?_
          refine J.neq rfl rfl rfl (decide_eq_false (by first | omega | rfl | assumption | (simp only [*]; done))) ?_
          refine J.pick_f rfl rfl rfl ?_
          refine J.move rfl rfl ?_
          refine J.yes rfl rfl ?_
          refine J.loadN (k := .l) trivial 14 rfl rfl agg25 (wc 0) rfl rfl rfl ?_
          refine J.yes rfl rfl ?_
          refine J.build rfl rfl (W 0) (fun w => by kernel_rfl) ?_
          refine J.yes rfl rfl ?_
          refine J.neqW eqw25 rfl rfl rfl ?_
          refine J.as 191 (.bool false) rfl (by rw [decide_eq_false (by first | omega | rfl | assumption | (simp only [*]; done))]) ?_
          refine J.pick_f rfl rfl rfl ?_
          refine J.end ?_
          refine X.then ?_
          refine T.cond_false rfl ?_
          refine T.skip ?_
          refine X.then ?_
          refine T.seq ?_
          refine T.text [.l, .l] rfl ?_
          refine J.call0 (k := .l) trivial fok39 rfl rfl (fun w hw => Pg.wrote w) ?_
          refine J.assign rfl rfl ?_
          refine J.end ?_
          refine X.then ?_
          refine T.ret ?_
          exact X.ret1 rfl (RV.tmp rfl) (fun w' hw' => ⟨rfl, hw'.sub (Sub.nil _)⟩)
end Go.Proofs.Ytpkjbeebhdgleaa.Lg
